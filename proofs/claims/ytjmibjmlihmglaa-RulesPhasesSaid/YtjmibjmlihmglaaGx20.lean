-- Written by a program of this session out of the translation; Lean checks it.
import Derived.Test.YtjmibjmlihmglaaGx0
import Derived.Test.YtjmibjmlihmglaaGx3
import Derived.Test.YtjmibjmlihmglaaGx8
import Derived.Test.YtjmibjmlihmglaaGx9
import Derived.Test.YtjmibjmlihmglaaGx11
import Derived.Test.YtjmibjmlihmglaaGx12
import Derived.Test.YtjmibjmlihmglaaGx19
namespace Go.Proofs.YtjmibjmlihmglaaW.PrintWords
open Go.RowKit
set_option linter.unusedVariables false
set_option linter.unusedSimpArgs false
theorem cut_cap {P : Program} (t e : TypeId) (kh km : IntKind) {i : TypeInfo} (ht : P.underlying t = some (.slice e)) (hi : P.info? e = some i) (A : Option Addr) (n c : Nat) (j : Int) (h0 : 0 ≤ j) (hm : j ≤ n) (hc : n ≤ c) :
    ∀ W : World, (Instr.slice t (.slice A n c) none (some (.int kh j)) (some (.int km j))).run P W = .ok (.slice A j.toNat j.toNat) W := by
  intro W
  have hel : P.elem t = e := by simp [Program.elem, ht]
  have hu : P.underlying t = some (.slice (P.elem t)) := by rw [hel]; exact ht
  have ha : (A.map fun x => x.add 0) = A := by cases A <;> simp [Addr.add]
  have hj : (j.toNat : Int) = j := Int.toNat_of_nonneg h0
  have h3 : j ≤ (c : Int) := by omega
  simp [Instr.slice, run_underlying hu, hel, Instr.sliceBounds, run_sliceBound, sizeOf, typeInfo, hi, sliced, Result.andThen, ha, h0, h3, hj]
/-- an element taken out, of a row that is not too long -/
def erG {α : Type} (l : List α) (i : Nat) : Option (List α) := if l.length < 2513169434916 then some (l.eraseIdx i) else none
theorem erG_open {α β : Type} {l : List α} {i : Nat} {f : List α → Option β} {r : β} (h : (erG l i).bind f = some r) : l.length < 2513169434916 ∧ (some (l.eraseIdx i)).bind f = some r := by
  unfold erG at h
  by_cases c : l.length < 2513169434916
  · rw [if_pos c] at h
    exact ⟨c, h⟩
  · rw [if_neg c] at h
    cases h
namespace Kd
theorem V_far_ {α : Type} {d : Kd α} {e base : Nat} {ok : Nat → Prop} {W : World} {v : Value} {xs : List α} (h : V d e W base ok v xs) {p : Addr} (hok : ∀ k, ok k → k ≠ p.block) (u : Value) : V d e (W.setCell p u) base ok v xs := V_map h (fun _ hf => F_step hf (fun k hk _ => Below.heap_setCell W p u k (hok k hk)))
theorem V_capdel_step {α : Type} {P : Program} {ops : Array Oper} {o : Oper} {a : Act} {Q : Exit → Act → World → Prop} {Kc : Act → World → Prop} (d : Kd α) {w0 W : World} (base : Nat) (hw : Region.wanted o (yielded ops a.tmps) = true) (s x : Operand) (t e : TypeId) (z : Value) (bytes : Nat)
    (ho : o.op = .call { callee := .builtin .append, args := #[s, x], argTypes := #[t, t] })
    (ht : P.underlying t = some (.slice e)) (hinfo : (P.info? e).map (fun i => (i.zero, i.size, i.bytes)) = some (some z, d.sz, bytes)) (hz : z.cells.size = d.sz) (hs0 : 0 < d.sz) (hb0 : 0 < bytes)
    {g n c k m c2 : Nat} {A : Option Addr} {xs : List α} {ok : Nat → Prop}
    (hs : a.eval s = .slice (some ⟨g, 0, none⟩) k k) (hx : a.eval x = .slice A m c2)
    (HO : N d e W base ok (.slice (some ⟨g, 0, none⟩) n c) xs) (hk : k < n) (hm : m = n - (k + 1))
    (hA : A = if c = k + 1 then some ⟨g, 0, none⟩ else (some (⟨g, 0, none⟩ : Addr)).map (·.add ((k + 1) * d.sz)))
    (hfresh : ∀ k, W.heap.size ≤ k → ok k)
    (HB : Below base w0 W) (hbase : base ≤ W.heap.size) (hl : n * bytes ≤ 140737488355328)
    (h : ∀ A1 c1 w1, V d e w1 base ok (.slice A1 (n - 1) c1) (xs.eraseIdx k) → Below base w0 w1 → W.grownBy w1 (some g) → ((Value.slice A1 (n - 1) c1).ownBlock = some g ∨ ∃ b, (Value.slice A1 (n - 1) c1).ownBlock = some b ∧ W.heap.size ≤ b) → Kc (a.put o.dst (.slice A1 (n - 1) c1)) w1) :
    if Region.wanted o (yielded ops a.tmps) = true then Oper.wp P o a W Kc Q else Kc (a.put o.dst undef) W := by
  obtain ⟨i0, hi, hzz⟩ := Option.map_eq_some_iff.1 hinfo
  simp only [Prod.mk.injEq] at hzz
  obtain ⟨hz0, hz1, hz2⟩ := hzz
  obtain ⟨hn, hc, _⟩ := N_reads' HO
  have hF := N_F HO
  subst hn
  have h1 := F_take (m := k) hF (by omega)
  have h2 := F_cut (m := k + 1) (c := c) hF (by omega) hc
  rw [← hA] at h2
  have hlt : (xs.take k).length = k := by rw [List.length_take]; omega
  have hld : (xs.drop (k + 1)).length = m := by rw [List.length_drop]; omega
  have he : xs.eraseIdx k = xs.take k ++ xs.drop (k + 1) := List.eraseIdx_eq_take_drop_succ xs k
  have hle : (xs.eraseIdx k).length = xs.length - 1 := by rw [he, List.length_append, hlt, hld]; omega
  rw [hlt] at h1
  rw [hld] at h2
  obtain ⟨ad, rfl⟩ : ∃ ad, A = some ad := by
    rw [hA]; split
    · exact ⟨_, rfl⟩
    · exact ⟨_, rfl⟩
  obtain ⟨rows1, hl1, hr1, hf1⟩ := reads_raw (F_rows h1) (fun y c hk => ⟨d.K_len (FK_now hk), d.K_one (FK_now hk)⟩)
  obtain ⟨rows2, hl2, hr2, hf2⟩ := reads_raw (F_rows h2) (fun y c hk => ⟨d.K_len (FK_now hk), d.K_one (FK_now hk)⟩)
  obtain ⟨olds, ho1, hc1⟩ := ReadsRow.inner_ hr1
  obtain ⟨news, hn1, hc2⟩ := ReadsRow.inner_ hr2
  have hol : olds.length = k * d.sz := by rw [ho1.1, hl1, hlt]
  have hnl : news.length = m * d.sz := by rw [hn1.1, hl2, hld]
  have hone : ∀ (rows : List (List Value)) (inner : List Value), Reps (fun x cs => cs = x ∧ cs.length = d.sz ∧ ∀ u ∈ cs, u.oneCell' = true) d.sz rows inner → ∀ u ∈ inner, u.oneCell' = true := by
    intro rows inner hr u hu
    obtain ⟨q, hq, rfl⟩ := List.mem_iff_getElem.1 hu
    have hql : q / d.sz < rows.length := by
      rw [Nat.div_lt_iff_lt_mul hs0, ← hr.1]
      exact hq
    refine (hr.2 (q / d.sz) _ (List.getElem?_eq_getElem hql)).2.2 _ ?_
    rw [List.mem_iff_getElem?]
    refine ⟨q % d.sz, ?_⟩
    rw [List.getElem?_take, if_pos (Nat.mod_lt _ hs0), List.getElem?_drop, Nat.mul_comm, Nat.div_add_mod, List.getElem?_eq_getElem hq]
  have fin : ∀ v1 w1, (Builtin.append_ #[t, t] o.type #[.slice (some ⟨g, 0, none⟩) k k, .slice (some ad) m c2]).run P W = .ok v1 w1 → Kc (a.put o.dst v1) w1 → if Region.wanted o (yielded ops a.tmps) = true then Oper.wp P o a W Kc Q else Kc (a.put o.dst undef) W := by
    intro v1 w1 hr hK
    rw [if_pos hw]
    unfold Oper.wp execOp
    simp only [ho, resolve, invoke, builtin, Sem.run_bind, Sem.run_pure, Result.andThen_ok, List.map_toArray, List.map_cons, List.map_nil, hs, hx, hr]
    exact hK
  by_cases hm0 : m = 0
  · have hd0 : xs.drop (k + 1) = [] := List.eq_nil_of_length_eq_zero (by omega)
    have hk1 : xs.length - 1 = k := by omega
    refine fin (.slice (some ⟨g, 0, none⟩) k k) W ?_ ?_
    · rw [hm0]
      have hf := run_firstCells_some (P := P) W i0.size 0 ad 0 c2 [] (by simp) (by intro _ _ h'; simp at h')
      simp [Builtin.append_, run_underlying ht, sizeOf, typeInfo, hi, Builtin.lenOf, hf, storeCells]
    · rw [he, hd0, List.append_nil, hk1] at h
      refine h _ _ _ ?_ HB (World.grownBy.refl W _) (.inl rfl)
      have h9 := V_mk (e := e) (base := base) (c := k) (Nat.le_of_eq hlt) (by rw [hlt]; exact h1)
      rw [hlt] at h9
      exact h9
  · have hbig : (k + m) * bytes ≤ 140737488355328 := Nat.le_trans (Nat.mul_le_mul_right _ (by omega)) hl
    have hlen : k + m ≤ 140737488355328 := Nat.le_trans (Nat.le_mul_of_pos_right _ hb0) hbig
    have hr := run_append_grow (P := P) W t o.type e i0 z ht hi hz0 ⟨g, 0, none⟩ k k olds (by rw [hz1]; exact hol) hc1 ad m c2 news (by rw [hz1]; exact hnl) hc2 (by omega) (by omega) (growslice_fits (by omega) (by rw [hz2]; exact hbig))
    refine fin _ _ hr ?_
    have hkm : k + m = xs.length - 1 := by omega
    have hge := grownCap_ge W (k + m) k e
    have hcm : grownCap W (k + m) k e ≤ maxLen := grownCap_le_maxLen W (k + m) k e (by simp only [maxLen]; omega)
    have hll : (olds ++ news).length = (k + m) * d.sz := by rw [List.length_append, hol, hnl, Nat.add_mul]
    have hown : (W.drew.alloc (.cells (olds.toArray ++ news.toArray ++ Builtin.zeroCells z.cells (grownCap W (k + m) k e - (k + m))) e)).ownsRow base e d.sz (.slice (some ⟨W.heap.size, 0, none⟩) (k + m) (grownCap W (k + m) k e)) (k + m) (olds ++ news) := by
      refine ⟨hll, .inr ⟨W.heap.size, _, _, rfl, hbase, heap_alloc_new W.drew _, hge, hcm, ?_, ?_⟩⟩
      · simp only [Array.size_append, List.size_toArray, size_zeroCells, hz, hol, hnl, ← Nat.add_mul]
        congr 1
        omega
      · simp only [Array.toList_append, List.append_assoc]
        rw [← List.append_assoc, ← hll]
        exact List.take_left
    have hg : W.grownBy (W.drew.alloc (.cells (olds.toArray ++ news.toArray ++ Builtin.zeroCells z.cells (grownCap W (k + m) k e - (k + m))) e)) none := ⟨rfl, rfl, rfl, by simp, fun k hk _ => heap_alloc_old W.drew _ hk⟩
    have hR : (raw d.sz).R e (W.drew.alloc (.cells (olds.toArray ++ news.toArray ++ Builtin.zeroCells z.cells (grownCap W (k + m) k e - (k + m))) e)) base (fun k => k = W.heap.size) (.slice (some ⟨W.heap.size, 0, none⟩) (k + m) (grownCap W (k + m) k e)) (rows1 ++ rows2) := by
      refine ⟨fun k hk => ?_, olds ++ news, ?_, ?_⟩
      · have : W.heap.size = k := by simpa [Value.ownBlock] using hk
        exact this.symm
      · rw [List.length_append, hl1, hl2, hlt, hld]; exact hown
      · exact (reps_append ho1 hn1)
    have hN : N d e (W.drew.alloc (.cells (olds.toArray ++ news.toArray ++ Builtin.zeroCells z.cells (grownCap W (k + m) k e - (k + m))) e)) base ok (.slice (some ⟨W.heap.size, 0, none⟩) (k + m) (grownCap W (k + m) k e)) (xs.eraseIdx k) := by
      refine N_made (okp := ok) hR hg ⟨W.heap.size, by simp [Value.ownBlock], Nat.le_refl _⟩ (by rw [List.length_append, hl1, hl2, hlt, hld, hle]; exact hkm) (fun j x c hx hcj => ?_) (fun _ hk => hk) (hfresh _ (Nat.le_refl _))
      rw [he] at hx
      rcases Nat.lt_or_ge j (xs.take k).length with hj | hj
      · rw [List.getElem?_append_left hj] at hx
        rw [List.getElem?_append_left (by omega)] at hcj
        exact hf1 j x c hx hcj
      · rw [List.getElem?_append_right hj] at hx
        rw [List.getElem?_append_right (by omega), hl1] at hcj
        exact hf2 _ x c hx hcj
    rw [hkm] at hN ⊢
    have hg2 : W.grownBy (W.drew.alloc (.cells (olds.toArray ++ news.toArray ++ Builtin.zeroCells z.cells (grownCap W (xs.length - 1) k e - (xs.length - 1))) e)) (some g) := ⟨rfl, rfl, rfl, by simp, fun k hk _ => heap_alloc_old W.drew _ hk⟩
    refine h _ _ _ (N_V hN) (HB.grown (row := none) ⟨rfl, rfl, rfl, by simp, fun k hk _ => heap_alloc_old W.drew _ hk⟩ hbase (by simp)) hg2 (.inr ⟨W.heap.size, by simp [Value.ownBlock], Nat.le_refl _⟩)
end Kd
end Go.Proofs.YtjmibjmlihmglaaW.PrintWords
namespace Go.Proofs.Ytjmibjmlihmglaa.G
open Go.RowKit Go.Proofs.YtjmibjmlihmglaaW.PrintWords Go.Proofs.YtjmibjmlihmglaaW.PrintLast Go.Proofs.YtjmibjmlihmglaaW.PrintMore
attribute [local go_sem] max2_int min2_int max_two min_two max_three min_three max_four min_four   -- for this text's walks alone
set_option linter.unusedVariables false
set_option linter.unusedSimpArgs false

/-! ### apogeelaw13_RulesPhases: function 6 -/
mutual
def apogeelaw13_RulesPhases.j0 : Nat → Int → Bool → List (S30) → Int → Int → Int → Int → Int → Int → Int → Int → Option (Bool)
 | 0, _, _, _, _, _, _, _, _, _, _, _ => none
 | k + 1, x1, x23, x484000, x484001, x484002, x484003, x484004, x484005, x484006, x484007, x484008 => if x23 = true then ((apogeelaw13_awake.f k).bind fun t487 => (some t487)) else (apogeelaw13_RulesPhases.l0 k x1 (x484000.length : Int) 0 x484000 x484001 x484002 x484003 x484004 x484005 x484006 x484007 x484008)
def apogeelaw13_RulesPhases.l0 : Nat → Int → Int → Int → List (S30) → Int → Int → Int → Int → Int → Int → Int → Int → Option (Bool)
 | 0, _, _, _, _, _, _, _, _, _, _, _, _ => none
 | k + 1, x1, x27, x28, x484000, x484001, x484002, x484003, x484004, x484005, x484006, x484007, x484008 => if x28 < x27 then ((rules_Phase.f x484000 x484001 x484002 x484003 x484004 x484005 x484006 x484007 x484008 x28).bind fun bt488 => (if bt488.2.2.2.2.2 = true then ((rules_RightPhase.f k bt488.1 bt488.2.1 bt488.2.2.1 bt488.2.2.2.1 bt488.2.2.2.2.1).bind fun t497 => (if t497 = true then (apogeelaw13_RulesPhases.l0 k x1 x27 (wrap64 (x28 + 1)) x484000 x484001 x484002 x484003 x484004 x484005 x484006 x484007 x484008) else (none))) else (none))) else ((rules_Copy.f k x484000 x484001 x484002 x484003 x484004 x484005 x484006 x484007 x484008).bind fun bt498 => (apogeelaw13_RulesPhases.l1 k x1 x484000 x484001 x484002 x484003 x484004 x484005 x484006 x484007 x484008 bt498.1 bt498.2.1 bt498.2.2.1 bt498.2.2.2.1 bt498.2.2.2.2.1 bt498.2.2.2.2.2.1 bt498.2.2.2.2.2.2.1 bt498.2.2.2.2.2.2.2.1 bt498.2.2.2.2.2.2.2.2))
def apogeelaw13_RulesPhases.l1 : Nat → Int → List (S30) → Int → Int → Int → Int → Int → Int → Int → Int → List (S30) → Int → Int → Int → Int → Int → Int → Int → Int → Option (Bool)
 | 0, _, _, _, _, _, _, _, _, _, _, _, _, _, _, _, _, _, _, _ => none
 | k + 1, x1, x484000, x484001, x484002, x484003, x484004, x484005, x484006, x484007, x484008, x510000, x510001, x510002, x510003, x510004, x510005, x510006, x510007, x510008 => if (x510000.length : Int) < 5 then (if (x510000.length : Int) = 0 then (none) else (if 0 < (x510000.length : Int) then (if x510000.length < 2513169434916 then (apogeelaw13_RulesPhases.l1 k x1 x484000 x484001 x484002 x484003 x484004 x484005 x484006 x484007 x484008 (x510000 ++ [(⟨(rd_T30 x510000 0).f0, (rd_T30 x510000 0).f1, (rd_T30 x510000 0).f2, (rd_T30 x510000 0).f3, (rd_T30 x510000 0).f4⟩ : S30)]) x510001 x510002 x510003 x510004 x510005 x510006 x510007 x510008) else (none)) else (none))) else ((rules_Copy.f k x484000 x484001 x484002 x484003 x484004 x484005 x484006 x484007 x484008).bind fun bt514 => (if (bt514.1.length : Int) = (x484000.length : Int) then (if (IntKind.u64.wrap ((bt514.1.length : Int))) = 0 then (none) else (if 0 ≤ (wrap64 (Int.tmod (IntKind.u64.wrap (x1)) (IntKind.u64.wrap ((bt514.1.length : Int))))) then (if (wrap64 (Int.tmod (IntKind.u64.wrap (x1)) (IntKind.u64.wrap ((bt514.1.length : Int))))) ≤ (bt514.1.length : Int) then (if 0 ≤ (wrap64 ((wrap64 (Int.tmod (IntKind.u64.wrap (x1)) (IntKind.u64.wrap ((bt514.1.length : Int))))) + 1)) then (if (wrap64 ((wrap64 (Int.tmod (IntKind.u64.wrap (x1)) (IntKind.u64.wrap ((bt514.1.length : Int))))) + 1)) ≤ (bt514.1.length : Int) then ((erG bt514.1 ((wrap64 (Int.tmod (IntKind.u64.wrap (x1)) (IntKind.u64.wrap ((bt514.1.length : Int))))) : Int).toNat).bind fun y536 => (if (y536.length : Int) = 0 then ((rules_Wrong.f k x510000 x510001 x510002 x510003 x510004 x510005 x510006 x510007 x510008).bind fun t539 => (if t539 = 1 then ((rules_Wrong.f k y536 bt514.2.1 bt514.2.2.1 bt514.2.2.2.1 bt514.2.2.2.2.1 bt514.2.2.2.2.2.1 bt514.2.2.2.2.2.2.1 bt514.2.2.2.2.2.2.2.1 (mn bt514.2.2.2.2.2.2.2.2 (y536.length : Int))).bind fun t540 => (some (t540 == 1))) else (none))) else ((rules_Wrong.f k x510000 x510001 x510002 x510003 x510004 x510005 x510006 x510007 x510008).bind fun t541 => (if t541 = 1 then ((rules_Wrong.f k y536 bt514.2.1 bt514.2.2.1 bt514.2.2.2.1 bt514.2.2.2.2.1 bt514.2.2.2.2.2.1 bt514.2.2.2.2.2.2.1 bt514.2.2.2.2.2.2.2.1 (mn bt514.2.2.2.2.2.2.2.2 (y536.length : Int))).bind fun t542 => (some (t542 == 0))) else (none))))) else (none)) else (none)) else (none)) else (none))) else (none)))
end
def apogeelaw13_RulesPhases.f (k : Nat) (l0_0 : List (S30)) (a0_1 : Int) (a0_2 : Int) (a0_3 : Int) (a0_4 : Int) (a0_5 : Int) (a0_6 : Int) (a0_7 : Int) (a0_8 : Int) (a1 : Int) : Option (Bool) := (apogeelaw13_awake.f k).bind fun t484 => (if t484 = true then ((apogeeref13_Few.f k l0_0 a0_1 a0_2 a0_3 a0_4 a0_5 a0_6 a0_7 a0_8).bind fun t485 => (if t485 = true then ((apogeeref13_Wrong.f k l0_0 a0_1 a0_2 a0_3 a0_4 a0_5 a0_6 a0_7 a0_8).bind fun t486 => (apogeelaw13_RulesPhases.j0 k a1 (t486 != 0) l0_0 a0_1 a0_2 a0_3 a0_4 a0_5 a0_6 a0_7 a0_8)) else (apogeelaw13_RulesPhases.j0 k a1 true l0_0 a0_1 a0_2 a0_3 a0_4 a0_5 a0_6 a0_7 a0_8))) else (apogeelaw13_RulesPhases.j0 k a1 true l0_0 a0_1 a0_2 a0_3 a0_4 a0_5 a0_6 a0_7 a0_8))
theorem apogeelaw13_RulesPhases.mono_l : ∀ k, (∀ y0 y1 y2 y3 y4 y5 y6 y7 y8 y9 y10, LeO (apogeelaw13_RulesPhases.j0 k y0 y1 y2 y3 y4 y5 y6 y7 y8 y9 y10) (apogeelaw13_RulesPhases.j0 (k + 1) y0 y1 y2 y3 y4 y5 y6 y7 y8 y9 y10)) ∧ (∀ y0 y1 y2 y3 y4 y5 y6 y7 y8 y9 y10 y11, LeO (apogeelaw13_RulesPhases.l0 k y0 y1 y2 y3 y4 y5 y6 y7 y8 y9 y10 y11) (apogeelaw13_RulesPhases.l0 (k + 1) y0 y1 y2 y3 y4 y5 y6 y7 y8 y9 y10 y11)) ∧ (∀ y0 y1 y2 y3 y4 y5 y6 y7 y8 y9 y10 y11 y12 y13 y14 y15 y16 y17 y18, LeO (apogeelaw13_RulesPhases.l1 k y0 y1 y2 y3 y4 y5 y6 y7 y8 y9 y10 y11 y12 y13 y14 y15 y16 y17 y18) (apogeelaw13_RulesPhases.l1 (k + 1) y0 y1 y2 y3 y4 y5 y6 y7 y8 y9 y10 y11 y12 y13 y14 y15 y16 y17 y18))
 | 0 => ⟨fun _ _ _ _ _ _ _ _ _ _ _ r h => by simp [apogeelaw13_RulesPhases.j0] at h, fun _ _ _ _ _ _ _ _ _ _ _ _ r h => by simp [apogeelaw13_RulesPhases.l0] at h, fun _ _ _ _ _ _ _ _ _ _ _ _ _ _ _ _ _ _ _ r h => by simp [apogeelaw13_RulesPhases.l1] at h⟩
 | k + 1 => by
  obtain ⟨ih0, ih1, ih2⟩ := apogeelaw13_RulesPhases.mono_l k
  refine ⟨?_, ?_, ?_⟩
  ·intro y0 y1 y2 y3 y4 y5 y6 y7 y8 y9 y10
   unfold apogeelaw13_RulesPhases.j0
   have m0_ := @apogeelaw13_awake.mono
   have m1_ := @apogeeref13_Few.mono
   have m2_ := @apogeeref13_Wrong.mono
   have m3_ := @rules_Copy.mono
   have m4_ := @rules_RightPhase.mono
   have m5_ := @rules_Wrong.mono
   exact bMo
  ·intro y0 y1 y2 y3 y4 y5 y6 y7 y8 y9 y10 y11
   unfold apogeelaw13_RulesPhases.l0
   have m0_ := @apogeelaw13_awake.mono
   have m1_ := @apogeeref13_Few.mono
   have m2_ := @apogeeref13_Wrong.mono
   have m3_ := @rules_Copy.mono
   have m4_ := @rules_RightPhase.mono
   have m5_ := @rules_Wrong.mono
   exact bMo
  ·intro y0 y1 y2 y3 y4 y5 y6 y7 y8 y9 y10 y11 y12 y13 y14 y15 y16 y17 y18
   unfold apogeelaw13_RulesPhases.l1
   have m0_ := @apogeelaw13_awake.mono
   have m1_ := @apogeeref13_Few.mono
   have m2_ := @apogeeref13_Wrong.mono
   have m3_ := @rules_Copy.mono
   have m4_ := @rules_RightPhase.mono
   have m5_ := @rules_Wrong.mono
   exact bMo
theorem apogeelaw13_RulesPhases.mono : ∀ a0 a1 a2 a3 a4 a5 a6 a7 a8 a9 k, LeO (apogeelaw13_RulesPhases.f k a0 a1 a2 a3 a4 a5 a6 a7 a8 a9) (apogeelaw13_RulesPhases.f (k + 1) a0 a1 a2 a3 a4 a5 a6 a7 a8 a9) := by
 intro a0 a1 a2 a3 a4 a5 a6 a7 a8 a9 k
 obtain ⟨ih0, ih1, ih2⟩ := apogeelaw13_RulesPhases.mono_l k
 unfold apogeelaw13_RulesPhases.f
 have m0_ := @apogeelaw13_awake.mono
 have m1_ := @apogeeref13_Few.mono
 have m2_ := @apogeeref13_Wrong.mono
 have m3_ := @rules_Copy.mono
 have m4_ := @rules_RightPhase.mono
 have m5_ := @rules_Wrong.mono
 exact bMo
def apogeelaw13_RulesPhases.T14 : Bool × List (List Nat × List Nat) := (true, [([], []), ([0], [0]), ([], []), ([2], [2]), ([3], [3]), ([4], [4]), ([5], [5]), ([1, 6], [1, 6]), ([0, 1, 2, 3, 4, 5, 6, 7], []), ([8, 7, 7, 0, 1, 2, 3, 4, 5, 6, 7], [7, 8])])
def apogeelaw13_RulesPhases.B14 : List Nat := [0, 1, 0, 4, 12, 28, 60, 127, 255, 511]
theorem apogeelaw13_RulesPhases.tab14 : rtab .any (opsOf Try.f6 14) = apogeelaw13_RulesPhases.T14 := by kernel_rfl
theorem apogeelaw13_RulesPhases.bits14 : waitsOk apogeelaw13_RulesPhases.T14.2 apogeelaw13_RulesPhases.B14 = true := by kernel_rfl
def apogeelaw13_RulesPhases.T19 : Bool × List (List Nat × List Nat) := (true, [([], []), ([0], [0]), ([], []), ([], []), ([1, 2, 3], [1, 2, 3]), ([], []), ([5], [5]), ([], []), ([7], [7]), ([6, 8], [6, 8]), ([4, 9], [4, 9]), ([0, 1, 2, 3, 4, 5, 6, 7, 8, 9, 10], []), ([11, 10, 10, 0, 1, 2, 3, 4, 5, 6, 7, 8, 9, 10], [10, 11])])
def apogeelaw13_RulesPhases.B19 : List Nat := [0, 1, 0, 0, 15, 0, 32, 0, 128, 480, 1023, 2047, 4095]
theorem apogeelaw13_RulesPhases.tab19 : rtab .any (opsOf Try.f6 19) = apogeelaw13_RulesPhases.T19 := by kernel_rfl
theorem apogeelaw13_RulesPhases.bits19 : waitsOk apogeelaw13_RulesPhases.T19.2 apogeelaw13_RulesPhases.B19 = true := by kernel_rfl
set_option maxHeartbeats 8000000 in
set_option maxRecDepth 100000 in
theorem apogeelaw13_RulesPhases.calls (k : Nat) (A0_0 : Option Addr) (c0_0 : Nat) (l0_0 : List (S30)) (a0_1 : Int) (a0_2 : Int) (a0_3 : Int) (a0_4 : Int) (a0_5 : Int) (a0_6 : Int) (a0_7 : Int) (a0_8 : Int) (a1 : Int) (r : Bool) (w : World) (hr0_0 : Kd.C k30 w A0_0 l0_0.length l0_0) (hc0_0 : l0_0.length ≤ c0_0) (h : apogeelaw13_RulesPhases.f k l0_0 a0_1 a0_2 a0_3 a0_4 a0_5 a0_6 a0_7 a0_8 a1 = some r) :
  Calls Try.prog 6 #[.agg #[.slice A0_0 l0_0.length c0_0, .int .i64 a0_1, .int .i64 a0_2, .int .i64 a0_3, .int .i64 a0_4, .int .i64 a0_5, .int .i64 a0_6, .int .i64 a0_7, .int .i64 a0_8], .int .i64 a1] w fun e w' => e = .returned (.bool r) ∧ Below w.heap.size w w' := by
 have hu24 := Try.underlying24
 have hu30 := Try.underlying30
 have HR0_0 := bA hr0_0
 have HC0_0 := bA hc0_0
 clear hr0_0 hc0_0
 have HB := bA (Below.refl w.heap.size w)
 have H : ((apogeelaw13_awake.f k).bind fun t484 => (if t484 = true then ((apogeeref13_Few.f k l0_0 a0_1 a0_2 a0_3 a0_4 a0_5 a0_6 a0_7 a0_8).bind fun t485 => (if t485 = true then ((apogeeref13_Wrong.f k l0_0 a0_1 a0_2 a0_3 a0_4 a0_5 a0_6 a0_7 a0_8).bind fun t486 => (apogeelaw13_RulesPhases.j0 k a1 (t486 != 0) l0_0 a0_1 a0_2 a0_3 a0_4 a0_5 a0_6 a0_7 a0_8)) else (apogeelaw13_RulesPhases.j0 k a1 true l0_0 a0_1 a0_2 a0_3 a0_4 a0_5 a0_6 a0_7 a0_8))) else (apogeelaw13_RulesPhases.j0 k a1 true l0_0 a0_1 a0_2 a0_3 a0_4 a0_5 a0_6 a0_7 a0_8))) = some r := h
 clear h
 have HC3 := bA H
 clear H
 go_enter Try.func6, Try.ntmps6
 go_upto_region 1 with (first | ((with_reducible refine gate_dst (N := 2) rfl ?_); refine bE (N := 2) (cs := #[.slice A0_0 l0_0.length c0_0, .int .i64 a0_1, .int .i64 a0_2, .int .i64 a0_3, .int .i64 a0_4, .int .i64 a0_5, .int .i64 a0_6, .int .i64 a0_7, .int .i64 a0_8]) (t := 24) ?_; intro gb483 hg w4 hbox hb; have n0_ := bA (bS hb); have n1_ := bA (hbox); have n2_ := bA (bZ hg); have n3_ := bA (bZ hg); clear HB; have HB := n0_; have BK483 := n1_; have GW483 := n2_; have GE483 := n3_; clear n0_ n1_ n2_ n3_; clear hb hbox hg))
 (try simp only [Act.put, List.setIfInBounds_toArray, List.set_cons_zero, List.set_cons_succ])
 go_cut [23] (fun v23 wc => ∃ (kq : Nat) (x23_2 : Bool), v23 = .bool x23_2 ∧ Aside0 (apogeelaw13_RulesPhases.j0 kq a1 x23_2 l0_0 a0_1 a0_2 a0_3 a0_4 a0_5 a0_6 a0_7 a0_8 = some r) ∧ Aside0 (kq ≤ k) ∧ Aside0 (wc.heap[gb483]? = some (.cells #[(.slice A0_0 l0_0.length c0_0), .int .i64 a0_1, .int .i64 a0_2, .int .i64 a0_3, .int .i64 a0_4, .int .i64 a0_5, .int .i64 a0_6, .int .i64 a0_7, .int .i64 a0_8] 24 (0, 0))) ∧ Aside0 (Below w.heap.size w wc))
 case first =>
  have H := HC3.out
  clear HC3
  replace H := Option.bind_eq_some_iff.mp H
  obtain ⟨t484, A50, H⟩ := H
  have A5 := bA A50
  clear A50
  by_cases c6 : t484 = true
  subst c6
  rw [if_pos rfl] at H
  replace H := Option.bind_eq_some_iff.mp H
  obtain ⟨t485, A70, H⟩ := H
  have A7 := bA A70
  clear A70
  by_cases c8 : t485 = true
  subst c8
  rw [if_pos rfl] at H
  replace H := Option.bind_eq_some_iff.mp H
  obtain ⟨t486, A90, H⟩ := H
  have A9 := bA A90
  clear A90
  have H' := bA H
  clear H
  rotate_left
  replace c8 := Bool.eq_false_iff.mpr c8
  subst c8
  rw [if_neg bn] at H
  have H' := bA H
  clear H
  rotate_left
  replace c6 := Bool.eq_false_iff.mpr c6
  subst c6
  rw [if_neg bn] at H
  have H' := bA H
  clear H
  rotate_left
  all_goals go_wp2_with (first | ((first | ((with_reducible refine gate_callee (f := 14) rfl ?_); refine bC (some 12) Try.func14 #[] ?_) | go_at_call 14); (with_reducible refine (apogeelaw13_awake.calls k  true _ A5.out).mono ?_); rintro e wz0 ⟨rfl, hb⟩; (first | refine ⟨_, rfl, ?_⟩ | skip); replace BK483 := bA (bB BK483 hb); replace HB := bA (bS hb); (try clear hb); obtain ⟨hz1, hz2, hz3, hz4, hz5, hz6, hz7, hz8, hz9, hz10, hz11, hz12, hz13, hz14, hz15, hz16, hz17, hz18⟩ := bc9 BK483) | (go_at_call 15; (with_reducible refine (apogeeref13_Few.calls k _ _ l0_0 a0_1 a0_2 a0_3 a0_4 a0_5 a0_6 a0_7 a0_8 true _ ?side1 ?side2 A7.out).mono ?_); (case side1 => exact bQ HR0_0); (case side2 => exact HC0_0.out); rintro e wz1 ⟨rfl, hb⟩; replace BK483 := bA (bB BK483 hb); replace HB := bA (bS hb); (try clear hb); obtain ⟨hz19, hz20, hz21, hz22, hz23, hz24, hz25, hz26, hz27, hz10, hz11, hz12, hz13, hz14, hz15, hz16, hz17, hz18⟩ := bc9 BK483) | (go_at_call 16; (with_reducible refine (apogeeref13_Wrong.calls k _ _ l0_0 a0_1 a0_2 a0_3 a0_4 a0_5 a0_6 a0_7 a0_8 t486 _ ?side1 ?side2 A9.out).mono ?_); (case side1 => exact bQ HR0_0); (case side2 => exact HC0_0.out); rintro e wz2 ⟨rfl, hb⟩; replace BK483 := bA (bB BK483 hb); replace HB := bA (bS hb); (try clear hb)) | (go_at_call 15; (with_reducible refine (apogeeref13_Few.calls k _ _ l0_0 a0_1 a0_2 a0_3 a0_4 a0_5 a0_6 a0_7 a0_8 false _ ?side1 ?side2 A7.out).mono ?_); (case side1 => exact bQ HR0_0); (case side2 => exact HC0_0.out); rintro e wz1 ⟨rfl, hb⟩; replace BK483 := bA (bB BK483 hb); replace HB := bA (bS hb); (try clear hb)) | ((first | ((with_reducible refine gate_callee (f := 14) rfl ?_); refine bC (some 12) Try.func14 #[] ?_) | go_at_call 14); (with_reducible refine (apogeelaw13_awake.calls k  false _ A5.out).mono ?_); rintro e wz0 ⟨rfl, hb⟩; (first | refine ⟨_, rfl, ?_⟩ | skip); replace BK483 := bA (bB BK483 hb); replace HB := bA (bS hb); (try clear hb)))
  ·go_meet
   case rel => exact ⟨_, ((t486 != 0)), bs, H', ⟨by first | omega | exact Nat.le_refl _⟩, ⟨by (with_reducible repeat (first | refine blk_drewN ?_ _ | refine blk_drew ?_ | refine blk_alloc ?_ _)); exact BK483.out⟩, ⟨bX⟩⟩
  ·go_meet
   case rel => exact ⟨_, (true), bs, H', ⟨by first | omega | exact Nat.le_refl _⟩, ⟨by (with_reducible repeat (first | refine blk_drewN ?_ _ | refine blk_drew ?_ | refine blk_alloc ?_ _)); exact BK483.out⟩, ⟨bX⟩⟩
  go_meet
  case rel => exact ⟨_, (true), bs, H', ⟨by first | omega | exact Nat.le_refl _⟩, ⟨by (with_reducible repeat (first | refine blk_drewN ?_ _ | refine blk_drew ?_ | refine blk_alloc ?_ _)); exact BK483.out⟩, ⟨bX⟩⟩
 clear HC3
 try clear c1
 try clear p2
 try clear c6
 try clear c8
 try clear c14
 try clear hcz11_0
 try clear hcz11_1
 try clear hcz11_2
 try clear hcz11_3
 try clear hcz11_4
 try clear hcz11_5
 try clear hcz11_6
 try clear hcz11_7
 try clear hcz11_8
 try clear hcz13_0
 try clear hcz13_1
 try clear hcz13_2
 try clear hcz13_3
 try clear hcz13_4
 try clear hcz13_5
 try clear hcz13_6
 try clear hcz13_7
 try clear hcz13_8
 try clear hcz16_0
 try clear hcz16_1
 try clear hcz16_2
 try clear hcz16_3
 try clear hcz16_4
 try clear hcz16_5
 try clear hcz16_6
 try clear hcz16_7
 try clear hcz16_8
 try clear hfz11_0
 try clear hfz11_1
 try clear hfz11_2
 try clear hfz11_3
 try clear hfz11_4
 try clear hfz11_5
 try clear hfz11_6
 try clear hfz11_7
 try clear hfz11_8
 try clear hfz13_0
 try clear hfz13_1
 try clear hfz13_2
 try clear hfz13_3
 try clear hfz13_4
 try clear hfz13_5
 try clear hfz13_6
 try clear hfz13_7
 try clear hfz13_8
 try clear hfz16_0
 try clear hfz16_1
 try clear hfz16_2
 try clear hfz16_3
 try clear hfz16_4
 try clear hfz16_5
 try clear hfz16_6
 try clear hfz16_7
 try clear hfz16_8
 obtain ⟨kq, x23_2, rfl, HA, HJ2, BK483, HB⟩ := hcut
 cases kq with
 | zero => exact absurd HA.out (by simp [apogeelaw13_RulesPhases.j0])
 | succ kj2 =>
  have H := HA.out
  clear HA
  simp only [apogeelaw13_RulesPhases.j0] at H
  by_cases c19 : x23_2 = true
  ·subst c19
   rw [if_pos rfl] at H
   replace H := Option.bind_eq_some_iff.mp H
   obtain ⟨t487, A200, H⟩ := H
   have A20 := bA A200
   clear A200
   obtain rfl := Option.some.inj H
   go_wp2_with (first | ((first | ((with_reducible refine gate_callee (f := 14) rfl ?_); refine bC (some 24) Try.func14 #[] ?_) | ((fail_if_success (have h_ := HO490)); go_at_call 14)); (with_reducible refine (apogeelaw13_awake.calls kj2  t487 _ A20.out).mono ?_); rintro e w21 ⟨rfl, hb⟩; (first | refine ⟨_, rfl, ?_⟩ | skip); replace BK483 := bA (bB BK483 hb); replace HB := bA (bS hb); (try clear hb)))
   go_ret
   exact bF
  replace c19 := Bool.eq_false_iff.mpr c19
  subst c19
  rw [if_neg bn] at H
  have H' := bA H
  clear H
  obtain ⟨hcz22_0, hcz22_1, hcz22_2, hcz22_3, hcz22_4, hcz22_5, hcz22_6, hcz22_7, hcz22_8, hfz22_0, hfz22_1, hfz22_2, hfz22_3, hfz22_4, hfz22_5, hfz22_6, hfz22_7, hfz22_8⟩ := bc9 BK483
  go_wp2
  go_loopg [28] kj2 (fun kq v28 w' => ∃ (x28_2 : Int), v28 = .int .i64 x28_2 ∧ Aside0 (apogeelaw13_RulesPhases.l0 kq a1 (l0_0.length : Int) x28_2 l0_0 a0_1 a0_2 a0_3 a0_4 a0_5 a0_6 a0_7 a0_8 = some r) ∧ Aside0 (kq ≤ kj2) ∧ Aside0 (w'.heap[gb483]? = some (.cells #[(.slice A0_0 l0_0.length c0_0), .int .i64 a0_1, .int .i64 a0_2, .int .i64 a0_3, .int .i64 a0_4, .int .i64 a0_5, .int .i64 a0_6, .int .i64 a0_7, .int .i64 a0_8] 24 (0, 0))) ∧ Aside0 (Below w.heap.size w w'))
  case atStart => exact ⟨(0), bs, H', ⟨Nat.le_refl _⟩, ⟨by (with_reducible repeat (first | refine blk_drewN ?_ _ | refine blk_drew ?_ | refine blk_alloc ?_ _)); exact BK483.out⟩, ⟨bX⟩⟩
  clear H'
  try clear c1
  try clear p2
  try clear c6
  try clear c8
  try clear c14
  try clear c19
  try clear hcz11_0
  try clear hcz11_1
  try clear hcz11_2
  try clear hcz11_3
  try clear hcz11_4
  try clear hcz11_5
  try clear hcz11_6
  try clear hcz11_7
  try clear hcz11_8
  try clear hcz13_0
  try clear hcz13_1
  try clear hcz13_2
  try clear hcz13_3
  try clear hcz13_4
  try clear hcz13_5
  try clear hcz13_6
  try clear hcz13_7
  try clear hcz13_8
  try clear hcz16_0
  try clear hcz16_1
  try clear hcz16_2
  try clear hcz16_3
  try clear hcz16_4
  try clear hcz16_5
  try clear hcz16_6
  try clear hcz16_7
  try clear hcz16_8
  try clear hcz22_0
  try clear hcz22_1
  try clear hcz22_2
  try clear hcz22_3
  try clear hcz22_4
  try clear hcz22_5
  try clear hcz22_6
  try clear hcz22_7
  try clear hcz22_8
  try clear hfz11_0
  try clear hfz11_1
  try clear hfz11_2
  try clear hfz11_3
  try clear hfz11_4
  try clear hfz11_5
  try clear hfz11_6
  try clear hfz11_7
  try clear hfz11_8
  try clear hfz13_0
  try clear hfz13_1
  try clear hfz13_2
  try clear hfz13_3
  try clear hfz13_4
  try clear hfz13_5
  try clear hfz13_6
  try clear hfz13_7
  try clear hfz13_8
  try clear hfz16_0
  try clear hfz16_1
  try clear hfz16_2
  try clear hfz16_3
  try clear hfz16_4
  try clear hfz16_5
  try clear hfz16_6
  try clear hfz16_7
  try clear hfz16_8
  try clear hfz22_0
  try clear hfz22_1
  try clear hfz22_2
  try clear hfz22_3
  try clear hfz22_4
  try clear hfz22_5
  try clear hfz22_6
  try clear hfz22_7
  try clear hfz22_8
  try clear p2
  obtain ⟨x28_2, rfl, HA, HK2, BK483, HB⟩ := hrel
  cases gk with
  | zero => exact absurd HA.out (by simp [apogeelaw13_RulesPhases.l0])
  | succ k2 =>
   have H := HA.out
   clear HA
   simp only [apogeelaw13_RulesPhases.l0] at H
   by_cases c23 : x28_2 < (l0_0.length : Int)
   ·rw [if_pos c23] at H
    have c23b0 : decide (x28_2 < (l0_0.length : Int)) = true := decide_eq_true c23
    clear c23
    replace H := Option.bind_eq_some_iff.mp H
    obtain ⟨⟨t488, t491, t492, t493, t494, t495⟩, A240, H⟩ := H
    replace H : (if t495 = true then ((rules_RightPhase.f k2 t488 t491 t492 t493 t494).bind fun t497 => (if t497 = true then (apogeelaw13_RulesPhases.l0 k2 a1 (l0_0.length : Int) (wrap64 (x28_2 + 1)) l0_0 a0_1 a0_2 a0_3 a0_4 a0_5 a0_6 a0_7 a0_8) else (none))) else (none)) = some r := H
    have A24 := bA A240
    clear A240
    by_cases c25 : t495 = true
    rotate_left
    ·replace c25 := Bool.eq_false_iff.mpr c25
     subst c25
     rw [if_neg bn] at H
     exact absurd H (by simp)
    subst c25
    rw [if_pos rfl] at H
    replace H := Option.bind_eq_some_iff.mp H
    obtain ⟨t497, A260, H⟩ := H
    have A26 := bA A260
    clear A260
    by_cases c27 : t497 = true
    rotate_left
    ·replace c27 := Bool.eq_false_iff.mpr c27
     subst c27
     rw [if_neg bn] at H
     exact absurd H (by simp)
    subst c27
    rw [if_pos rfl] at H
    have H' := bA H
    clear H
    obtain ⟨hcz28_0, hcz28_1, hcz28_2, hcz28_3, hcz28_4, hcz28_5, hcz28_6, hcz28_7, hcz28_8, hfz28_0, hfz28_1, hfz28_2, hfz28_3, hfz28_4, hfz28_5, hfz28_6, hfz28_7, hfz28_8⟩ := bc9 BK483
    go_wp2_with (first | ((first | ((with_reducible refine gate_callee (f := 17) rfl ?_); refine bC (some 34) Try.func17 #[.agg #[.slice A0_0 l0_0.length c0_0, .int .i64 a0_1, .int .i64 a0_2, .int .i64 a0_3, .int .i64 a0_4, .int .i64 a0_5, .int .i64 a0_6, .int .i64 a0_7, .int .i64 a0_8], .int .i64 x28_2] ?_) | go_at_call 17); (with_reducible refine (rules_Phase.calls _ _ l0_0 a0_1 a0_2 a0_3 a0_4 a0_5 a0_6 a0_7 a0_8 x28_2 t488 t491 t492 t493 t494 true _ ?side1 ?side2 A24.out).mono ?_); (case side1 => exact bQ HR0_0); (case side2 => exact HC0_0.out); rintro e w29 ⟨v489, rfl, ho0, hb⟩; (first | refine ⟨_, rfl, ?_⟩ | skip); have HO490 := bA (Kd.R_lower ho0 bY); replace BK483 := bA (bB BK483 hb); replace HB := bA (bS hb); (try clear hb); (try clear ho0)) | ((with_reducible refine gate_dst (N := 6) rfl ?_); refine bE (N := 6) (cs := #[.slice none 0 0, .int .i64 0, .int .i64 0, .int .i64 0, .int .i64 0]) (t := 30) ?_; intro gb496 hg w30 hbox hb; have BK496 := bA (hbox); have GW496 := bA (bZ hg); have GE496 := bA (bZ hg); have NB483_496 := bA (bL BK483 hg); have NB496_483 := bA (bG BK483 hg); replace HO490 := bA (Kd.R_below (bRr HO490) hb); replace BK483 := bA (bB BK483 hb); replace HB := bA (bS hb); clear hb hbox hg; obtain ⟨Ao31, co31, eo31⟩ := Kd.R_slice HO490.out; subst eo31; have hnb32 := NB496_483.out; have hnc32 := NB483_496.out; obtain ⟨hcz33_0, hcz33_1, hcz33_2, hcz33_3, hcz33_4, hfz33_0, hfz33_1, hfz33_2, hfz33_3, hfz33_4⟩ := bc5 BK496) | (go_at_call 22; (with_reducible refine (rules_RightPhase.calls k2 _ _ t488 t491 t492 t493 t494 true _ ?side1 ?side2 A26.out).mono ?_); (case side1 => refine (Kd.R_reads' (e := 41) (base := w.heap.size) (ok := fun k_ => True) (n := t488.length) (c := co31) ?_).2.2; exact (by (with_reducible repeat (first | apply Kd.R_alloc | apply Kd.R_drewN | apply Kd.R_drew)); exact (Kd.R_mono (Kd.R_far (p := ⟨gb496, 4, none⟩) (Kd.R_far (p := ⟨gb496, 3, none⟩) (Kd.R_far (p := ⟨gb496, 2, none⟩) (Kd.R_far (p := ⟨gb496, 1, none⟩) (Kd.R_far (p := ⟨gb496, 0, none⟩) (Kd.R_types HO490.out BK496.out (by decide)) (fun _ hk => hk.2) (.slice Ao31 t488.length co31)) (fun _ hk => hk.2) (.int .i64 t491)) (fun _ hk => hk.2) (.int .i64 t492)) (fun _ hk => hk.2) (.int .i64 t493)) (fun _ hk => hk.2) (.int .i64 t494)) (fun _ h_ => h_.1)))); (case side2 => exact (Kd.R_reads' HO490.out).2.1); rintro e w34 ⟨rfl, hb⟩; replace HO490 := bA (Kd.R_below (by (with_reducible repeat (first | apply Kd.R_alloc | apply Kd.R_drewN | apply Kd.R_drew)); exact (Kd.R_mono (Kd.R_far (p := ⟨gb496, 4, none⟩) (Kd.R_far (p := ⟨gb496, 3, none⟩) (Kd.R_far (p := ⟨gb496, 2, none⟩) (Kd.R_far (p := ⟨gb496, 1, none⟩) (Kd.R_far (p := ⟨gb496, 0, none⟩) (Kd.R_types HO490.out BK496.out (by decide)) (fun _ hk => hk.2) (.slice Ao31 t488.length co31)) (fun _ hk => hk.2) (.int .i64 t491)) (fun _ hk => hk.2) (.int .i64 t492)) (fun _ hk => hk.2) (.int .i64 t493)) (fun _ hk => hk.2) (.int .i64 t494)) (fun _ h_ => h_.1))) hb); replace BK483 := bA (blk_below (g := gb483) (o := .cells #[.slice A0_0 l0_0.length c0_0, .int .i64 a0_1, .int .i64 a0_2, .int .i64 a0_3, .int .i64 a0_4, .int .i64 a0_5, .int .i64 a0_6, .int .i64 a0_7, .int .i64 a0_8] 24 (0, 0)) (by (repeat ((with_reducible repeat (first | refine blk_drewN ?_ _ | refine blk_drew ?_ | refine blk_alloc ?_ _)); refine blk_far ?_ NB483_496.out _)); (with_reducible repeat (first | refine blk_drewN ?_ _ | refine blk_drew ?_ | refine blk_alloc ?_ _)); exact BK483.out) hb); replace BK496 := bA (blk_below (g := gb496) (o := .cells #[.slice Ao31 t488.length co31, .int .i64 t491, .int .i64 t492, .int .i64 t493, .int .i64 t494] 30 (0, 0)) (by (with_reducible repeat (first | refine blk_drewN ?_ _ | refine blk_drew ?_ | refine blk_alloc ?_ _)); refine blk_put (cs := #[.slice Ao31 t488.length co31, .int .i64 t491, .int .i64 t492, .int .i64 t493, .int .i64 0]) ?_ 4 _ rfl; (with_reducible repeat (first | refine blk_drewN ?_ _ | refine blk_drew ?_ | refine blk_alloc ?_ _)); refine blk_put (cs := #[.slice Ao31 t488.length co31, .int .i64 t491, .int .i64 t492, .int .i64 0, .int .i64 0]) ?_ 3 _ rfl; (with_reducible repeat (first | refine blk_drewN ?_ _ | refine blk_drew ?_ | refine blk_alloc ?_ _)); refine blk_put (cs := #[.slice Ao31 t488.length co31, .int .i64 t491, .int .i64 0, .int .i64 0, .int .i64 0]) ?_ 2 _ rfl; (with_reducible repeat (first | refine blk_drewN ?_ _ | refine blk_drew ?_ | refine blk_alloc ?_ _)); refine blk_put (cs := #[.slice Ao31 t488.length co31, .int .i64 0, .int .i64 0, .int .i64 0, .int .i64 0]) ?_ 1 _ rfl; (with_reducible repeat (first | refine blk_drewN ?_ _ | refine blk_drew ?_ | refine blk_alloc ?_ _)); refine blk_put (cs := #[.slice none 0 0, .int .i64 0, .int .i64 0, .int .i64 0, .int .i64 0]) ?_ 0 _ rfl; (with_reducible repeat (first | refine blk_drewN ?_ _ | refine blk_drew ?_ | refine blk_alloc ?_ _)); exact BK496.out) hb); replace HB := bA (bS hb); (try clear hb)))
    go_roundg k2
    case measure => have := HJ2.out; have := HK2.out; omega
    case rel => exact ⟨(wrap64 (x28_2 + 1)), bs, H', ⟨by have := HJ2.out; have := HK2.out; omega⟩, ⟨by (with_reducible repeat (first | refine blk_drewN ?_ _ | refine blk_drew ?_ | refine blk_alloc ?_ _)); exact BK483.out⟩, ⟨bX⟩⟩
   rw [if_neg c23] at H
   have c23b0 : decide (x28_2 < (l0_0.length : Int)) = false := decide_eq_false c23
   clear c23
   replace H := Option.bind_eq_some_iff.mp H
   obtain ⟨⟨t498, t501, t502, t503, t504, t505, t506, t507, t508⟩, A350, H⟩ := H
   replace H : (apogeelaw13_RulesPhases.l1 k2 a1 l0_0 a0_1 a0_2 a0_3 a0_4 a0_5 a0_6 a0_7 a0_8 t498 t501 t502 t503 t504 t505 t506 t507 t508) = some r := H
   have A35 := bA A350
   clear A350
   have H' := bA H
   clear H
   obtain ⟨hcz36_0, hcz36_1, hcz36_2, hcz36_3, hcz36_4, hcz36_5, hcz36_6, hcz36_7, hcz36_8, hfz36_0, hfz36_1, hfz36_2, hfz36_3, hfz36_4, hfz36_5, hfz36_6, hfz36_7, hfz36_8⟩ := bc9 BK483
   go_wp2_with (first | ((first | ((with_reducible refine gate_callee (f := 24) rfl ?_); refine bC (some 46) Try.func24 #[.agg #[.slice A0_0 l0_0.length c0_0, .int .i64 a0_1, .int .i64 a0_2, .int .i64 a0_3, .int .i64 a0_4, .int .i64 a0_5, .int .i64 a0_6, .int .i64 a0_7, .int .i64 a0_8]] ?_) | go_at_call 24); (with_reducible refine (rules_Copy.calls k2 (fun k_ => k_ < w.heap.size) _ _ l0_0 a0_1 a0_2 a0_3 a0_4 a0_5 a0_6 a0_7 a0_8 t498 t501 t502 t503 t504 t505 t506 t507 t508 _ ?side1 A35.out).mono ?_); (case side1 => exact Kd.V_mk HC0_0.out (Kd.F_below (Kd.C_F k30_heap HR0_0.out) bX)); rintro e w37 ⟨v499, rfl, ho0, hb⟩; (first | refine ⟨_, rfl, ?_⟩ | skip); have HO500 := bA (Kd.N_lower (Kd.N_mono (ok' := fun k_ => k_ ≠ gb483) ho0 (fun k_ hk_ => Or.elim hk_ (fun hs_ => fun e_ => Nat.not_le.2 hs_ (by rw [e_]; exact GW483.out)) (fun hn_ => (Kd.freshB (g := gb483) (o := .cells #[.slice A0_0 l0_0.length c0_0, .int .i64 a0_1, .int .i64 a0_2, .int .i64 a0_3, .int .i64 a0_4, .int .i64 a0_5, .int .i64 a0_6, .int .i64 a0_7, .int .i64 a0_8] 24 (0, 0)) (bP BK483) k_ hn_)))) bY); replace BK483 := bA (bB BK483 hb); replace HB := bA (bS hb); (try clear hb); (try clear ho0)) | ((with_reducible refine gate_dst (N := 8) rfl ?_); refine bE (N := 8) (cs := #[.slice none 0 0, .int .i64 0, .int .i64 0, .int .i64 0, .int .i64 0, .int .i64 0, .int .i64 0, .int .i64 0, .int .i64 0]) (t := 24) ?_; intro gb509 hg w38 hbox hb; have BK509 := bA (hbox); have GW509 := bA (bZ hg); have GE509 := bA (bZ hg); have NB483_509 := bA (bL BK483 hg); have NB509_483 := bA (bG BK483 hg); replace HO500 := bA (Kd.N_below (Kd.N_elderB (bNr HO500) gb509 (Nat.le_of_eq hg.symm)) hb); replace BK483 := bA (bB BK483 hb); replace HB := bA (bS hb); clear hb hbox hg; obtain ⟨Ao39, co39, eo39⟩ := Kd.N_slice HO500.out; subst eo39; have hnb40 := NB509_483.out; have hnc40 := NB483_509.out; obtain ⟨hcz41_0, hcz41_1, hcz41_2, hcz41_3, hcz41_4, hcz41_5, hcz41_6, hcz41_7, hcz41_8, hfz41_0, hfz41_1, hfz41_2, hfz41_3, hfz41_4, hfz41_5, hfz41_6, hfz41_7, hfz41_8⟩ := bc9 BK509))
   go_loopg [] k2 (fun kq w' => ∃ (x510000_3 : List (S30)) (u510000 : Value), Aside0 (apogeelaw13_RulesPhases.l1 kq a1 l0_0 a0_1 a0_2 a0_3 a0_4 a0_5 a0_6 a0_7 a0_8 x510000_3 t501 t502 t503 t504 t505 t506 t507 t508 = some r) ∧ Aside0 (kq ≤ k2) ∧ Aside0 (Kd.N k30 30 w' w.heap.size (fun k_ => k_ ≠ gb483 ∧ k_ ≠ gb509) u510000 x510000_3) ∧ Aside0 (w'.heap[gb483]? = some (.cells #[(.slice A0_0 l0_0.length c0_0), .int .i64 a0_1, .int .i64 a0_2, .int .i64 a0_3, .int .i64 a0_4, .int .i64 a0_5, .int .i64 a0_6, .int .i64 a0_7, .int .i64 a0_8] 24 (0, 0))) ∧ Aside0 (w'.heap[gb509]? = some (.cells #[u510000, .int .i64 t501, .int .i64 t502, .int .i64 t503, .int .i64 t504, .int .i64 t505, .int .i64 t506, .int .i64 t507, .int .i64 t508] 24 (0, 0))) ∧ Aside0 (Below w.heap.size w w'))
   case atStart => exact ⟨(t498), (.slice Ao39 t498.length co39), H', ⟨Nat.le_refl _⟩, ⟨by (with_reducible repeat (first | apply Kd.N_alloc | apply Kd.N_drewN | apply Kd.N_drew)); exact Kd.N_mono (Kd.N_far (p := ⟨gb509, 8, none⟩) (Kd.N_far (p := ⟨gb509, 7, none⟩) (Kd.N_far (p := ⟨gb509, 6, none⟩) (Kd.N_far (p := ⟨gb509, 5, none⟩) (Kd.N_far (p := ⟨gb509, 4, none⟩) (Kd.N_far (p := ⟨gb509, 3, none⟩) (Kd.N_far (p := ⟨gb509, 2, none⟩) (Kd.N_far (p := ⟨gb509, 1, none⟩) (Kd.N_far (p := ⟨gb509, 0, none⟩) (Kd.N_mono HO500.out (fun k_ hk => (⟨hk, hk.2⟩ : _ ∧ k_ ≠ gb509))) (fun _ hk => hk.2) (.slice Ao39 t498.length co39)) (fun _ hk => hk.2) (.int .i64 t501)) (fun _ hk => hk.2) (.int .i64 t502)) (fun _ hk => hk.2) (.int .i64 t503)) (fun _ hk => hk.2) (.int .i64 t504)) (fun _ hk => hk.2) (.int .i64 t505)) (fun _ hk => hk.2) (.int .i64 t506)) (fun _ hk => hk.2) (.int .i64 t507)) (fun _ hk => hk.2) (.int .i64 t508)) (fun _ hk => ⟨hk.1.1, hk.1.2⟩)⟩, ⟨by (repeat ((with_reducible repeat (first | refine blk_drewN ?_ _ | refine blk_drew ?_ | refine blk_alloc ?_ _)); refine blk_far ?_ NB483_509.out _)); (with_reducible repeat (first | refine blk_drewN ?_ _ | refine blk_drew ?_ | refine blk_alloc ?_ _)); exact BK483.out⟩, ⟨by (with_reducible repeat (first | refine blk_drewN ?_ _ | refine blk_drew ?_ | refine blk_alloc ?_ _)); refine blk_put (cs := #[.slice Ao39 t498.length co39, .int .i64 t501, .int .i64 t502, .int .i64 t503, .int .i64 t504, .int .i64 t505, .int .i64 t506, .int .i64 t507, .int .i64 0]) ?_ 8 _ rfl; (with_reducible repeat (first | refine blk_drewN ?_ _ | refine blk_drew ?_ | refine blk_alloc ?_ _)); refine blk_put (cs := #[.slice Ao39 t498.length co39, .int .i64 t501, .int .i64 t502, .int .i64 t503, .int .i64 t504, .int .i64 t505, .int .i64 t506, .int .i64 0, .int .i64 0]) ?_ 7 _ rfl; (with_reducible repeat (first | refine blk_drewN ?_ _ | refine blk_drew ?_ | refine blk_alloc ?_ _)); refine blk_put (cs := #[.slice Ao39 t498.length co39, .int .i64 t501, .int .i64 t502, .int .i64 t503, .int .i64 t504, .int .i64 t505, .int .i64 0, .int .i64 0, .int .i64 0]) ?_ 6 _ rfl; (with_reducible repeat (first | refine blk_drewN ?_ _ | refine blk_drew ?_ | refine blk_alloc ?_ _)); refine blk_put (cs := #[.slice Ao39 t498.length co39, .int .i64 t501, .int .i64 t502, .int .i64 t503, .int .i64 t504, .int .i64 0, .int .i64 0, .int .i64 0, .int .i64 0]) ?_ 5 _ rfl; (with_reducible repeat (first | refine blk_drewN ?_ _ | refine blk_drew ?_ | refine blk_alloc ?_ _)); refine blk_put (cs := #[.slice Ao39 t498.length co39, .int .i64 t501, .int .i64 t502, .int .i64 t503, .int .i64 0, .int .i64 0, .int .i64 0, .int .i64 0, .int .i64 0]) ?_ 4 _ rfl; (with_reducible repeat (first | refine blk_drewN ?_ _ | refine blk_drew ?_ | refine blk_alloc ?_ _)); refine blk_put (cs := #[.slice Ao39 t498.length co39, .int .i64 t501, .int .i64 t502, .int .i64 0, .int .i64 0, .int .i64 0, .int .i64 0, .int .i64 0, .int .i64 0]) ?_ 3 _ rfl; (with_reducible repeat (first | refine blk_drewN ?_ _ | refine blk_drew ?_ | refine blk_alloc ?_ _)); refine blk_put (cs := #[.slice Ao39 t498.length co39, .int .i64 t501, .int .i64 0, .int .i64 0, .int .i64 0, .int .i64 0, .int .i64 0, .int .i64 0, .int .i64 0]) ?_ 2 _ rfl; (with_reducible repeat (first | refine blk_drewN ?_ _ | refine blk_drew ?_ | refine blk_alloc ?_ _)); refine blk_put (cs := #[.slice Ao39 t498.length co39, .int .i64 0, .int .i64 0, .int .i64 0, .int .i64 0, .int .i64 0, .int .i64 0, .int .i64 0, .int .i64 0]) ?_ 1 _ rfl; (with_reducible repeat (first | refine blk_drewN ?_ _ | refine blk_drew ?_ | refine blk_alloc ?_ _)); refine blk_put (cs := #[.slice none 0 0, .int .i64 0, .int .i64 0, .int .i64 0, .int .i64 0, .int .i64 0, .int .i64 0, .int .i64 0, .int .i64 0]) ?_ 0 _ rfl; (with_reducible repeat (first | refine blk_drewN ?_ _ | refine blk_drew ?_ | refine blk_alloc ?_ _)); exact BK509.out⟩, ⟨bX⟩⟩
   clear H'
   try clear c1
   try clear c2
   try clear p2
   try clear c3
   try clear c4
   try clear c6
   try clear p6
   try clear c8
   try clear c14
   try clear c17
   try clear c19
   try clear c23
   try clear c23b0
   try clear c24
   try clear c25
   try clear c27
   try clear c32
   try clear c40
   try clear hcz11_0
   try clear hcz11_1
   try clear hcz11_2
   try clear hcz11_3
   try clear hcz11_4
   try clear hcz11_5
   try clear hcz11_6
   try clear hcz11_7
   try clear hcz11_8
   try clear hcz13_0
   try clear hcz13_1
   try clear hcz13_2
   try clear hcz13_3
   try clear hcz13_4
   try clear hcz13_5
   try clear hcz13_6
   try clear hcz13_7
   try clear hcz13_8
   try clear hcz16_0
   try clear hcz16_1
   try clear hcz16_2
   try clear hcz16_3
   try clear hcz16_4
   try clear hcz16_5
   try clear hcz16_6
   try clear hcz16_7
   try clear hcz16_8
   try clear hcz22_0
   try clear hcz22_1
   try clear hcz22_2
   try clear hcz22_3
   try clear hcz22_4
   try clear hcz22_5
   try clear hcz22_6
   try clear hcz22_7
   try clear hcz22_8
   try clear hcz28_0
   try clear hcz28_1
   try clear hcz28_2
   try clear hcz28_3
   try clear hcz28_4
   try clear hcz28_5
   try clear hcz28_6
   try clear hcz28_7
   try clear hcz28_8
   try clear hcz33_0
   try clear hcz33_1
   try clear hcz33_2
   try clear hcz33_3
   try clear hcz33_4
   try clear hcz36_0
   try clear hcz36_1
   try clear hcz36_2
   try clear hcz36_3
   try clear hcz36_4
   try clear hcz36_5
   try clear hcz36_6
   try clear hcz36_7
   try clear hcz36_8
   try clear hcz41_0
   try clear hcz41_1
   try clear hcz41_2
   try clear hcz41_3
   try clear hcz41_4
   try clear hcz41_5
   try clear hcz41_6
   try clear hcz41_7
   try clear hcz41_8
   try clear hfz11_0
   try clear hfz11_1
   try clear hfz11_2
   try clear hfz11_3
   try clear hfz11_4
   try clear hfz11_5
   try clear hfz11_6
   try clear hfz11_7
   try clear hfz11_8
   try clear hfz13_0
   try clear hfz13_1
   try clear hfz13_2
   try clear hfz13_3
   try clear hfz13_4
   try clear hfz13_5
   try clear hfz13_6
   try clear hfz13_7
   try clear hfz13_8
   try clear hfz16_0
   try clear hfz16_1
   try clear hfz16_2
   try clear hfz16_3
   try clear hfz16_4
   try clear hfz16_5
   try clear hfz16_6
   try clear hfz16_7
   try clear hfz16_8
   try clear hfz22_0
   try clear hfz22_1
   try clear hfz22_2
   try clear hfz22_3
   try clear hfz22_4
   try clear hfz22_5
   try clear hfz22_6
   try clear hfz22_7
   try clear hfz22_8
   try clear hfz28_0
   try clear hfz28_1
   try clear hfz28_2
   try clear hfz28_3
   try clear hfz28_4
   try clear hfz28_5
   try clear hfz28_6
   try clear hfz28_7
   try clear hfz28_8
   try clear hfz33_0
   try clear hfz33_1
   try clear hfz33_2
   try clear hfz33_3
   try clear hfz33_4
   try clear hfz36_0
   try clear hfz36_1
   try clear hfz36_2
   try clear hfz36_3
   try clear hfz36_4
   try clear hfz36_5
   try clear hfz36_6
   try clear hfz36_7
   try clear hfz36_8
   try clear hfz41_0
   try clear hfz41_1
   try clear hfz41_2
   try clear hfz41_3
   try clear hfz41_4
   try clear hfz41_5
   try clear hfz41_6
   try clear hfz41_7
   try clear hfz41_8
   try clear p2
   obtain ⟨x510000_3, u510000, HA, HK3, HO_510000, BK483, BK509, HB⟩ := hrel
   cases gk with
   | zero => exact absurd HA.out (by simp [apogeelaw13_RulesPhases.l1])
   | succ k3 =>
    have H := HA.out
    clear HA
    simp only [apogeelaw13_RulesPhases.l1] at H
    by_cases c42 : (x510000_3.length : Int) < 5
    ·rw [if_pos c42] at H
     have c42b0 : decide ((x510000_3.length : Int) < 5) = true := decide_eq_true c42
     have c42b1 : decide (x510000_3.length < 5) = true := decide_eq_true (by omega)
     clear c42
     by_cases c43 : (x510000_3.length : Int) = 0
     ·rw [if_pos c43] at H
      exact absurd H (by simp)
     rw [if_neg c43] at H
     have c43b0 : ((x510000_3.length : Int) == 0) = false := beq_eq_false_iff_ne.mpr c43
     have c43b1 : ((x510000_3.length : Int) != 0) = true := bne_iff_ne.mpr c43
     have c43b2 : ¬ (x510000_3 = []) := fun h_ => c43 (by rw [h_]; rfl)
     by_cases c44 : 0 < (x510000_3.length : Int)
     rotate_left
     ·rw [if_neg c44] at H
      exact absurd H (by simp)
     rw [if_pos c44] at H
     have c44b0 : decide (0 < (x510000_3.length : Int)) = true := decide_eq_true c44
     have c44b1 : decide (0 < x510000_3.length) = true := decide_eq_true (by omega)
     clear c44
     by_cases c45 : x510000_3.length < 2513169434916
     rotate_left
     ·rw [if_neg c45] at H
      exact absurd H (by simp)
     rw [if_pos c45] at H
     have LMc45 := bA c45
     clear c45
     obtain ⟨y511, hy511⟩ : ∃ y_ : List (S30), y_ = (x510000_3 ++ [(⟨(rd_T30 x510000_3 0).f0, (rd_T30 x510000_3 0).f1, (rd_T30 x510000_3 0).f2, (rd_T30 x510000_3 0).f3, (rd_T30 x510000_3 0).f4⟩ : S30)]) := ⟨_, rfl⟩
     replace H : (apogeelaw13_RulesPhases.l1 k3 a1 l0_0 a0_1 a0_2 a0_3 a0_4 a0_5 a0_6 a0_7 a0_8 y511 t501 t502 t503 t504 t505 t506 t507 t508) = some r := by first | (rw [hy511]; with_reducible exact H) | (have H2_ := (Option.bind_some _ _).symm.trans H; rw [hy511]; with_reducible exact H2_) | (have H2_ := (Option.bind_some _ _).symm.trans H; with_reducible exact H2_) | with_reducible exact H | (rw [hy511]; exact H) | exact H
     have Ny511 := bA hy511
     clear hy511
     have H' := bA H
     clear H
     have hnb46 := NB509_483.out
     have hnc46 := NB483_509.out
     obtain ⟨hcz47_0, hcz47_1, hcz47_2, hcz47_3, hcz47_4, hcz47_5, hcz47_6, hcz47_7, hcz47_8, hfz47_0, hfz47_1, hfz47_2, hfz47_3, hfz47_4, hfz47_5, hfz47_6, hfz47_7, hfz47_8⟩ := bc9 BK509
     obtain ⟨Ao48, co48, eo48⟩ := Kd.N_slice HO_510000.out
     subst eo48
     try go_wp2
     replace HO_510000 := bA (Kd.N_drew HO_510000.out)
     replace BK483 := bA (blk_drew BK483.out)
     replace BK509 := bA (blk_drew BK509.out)
     replace HB := bA (below_drew1 HB.out)
     have p510 : 0 ≤ (0 : Int) := (by omega)
     have q510 : 0 < (x510000_3.length : Int) := bo
     obtain ⟨ad510, A510_0, c510_0, e510, hx510_0, hx510_1, hx510_2, hx510_3, hx510_4, hl510_0, hi510_0⟩ := at_T30 (Kd.N_reads' HO_510000.out).2.2 0 p510 q510
     cases e510
     obtain ⟨ce510, hce510, hMe510, hcc510⟩ := Kd.N_get HO_510000.out z30 0 p510 (by first | exact q510 | exact bo | (have e_ := (Kd.N_reads' HO_510000.out).1; omega))
     obtain ⟨ua510_0, uc510_0, rfl, ul510_0, ge510_0⟩ := k30_openF hMe510
     have hv510_0 := hcc510 0 _ rfl
     rw [Nat.add_zero] at hv510_0
     replace hv510_0 := Option.some.inj (hv510_0.symm.trans hx510_0)
     injection hv510_0 with hva_ hvn_ hvc_
     rw [hva_] at ge510_0
     rw [hvc_] at ul510_0
     have HL510_0 := bA (show Kd.V k41 41 _ w.heap.size _ _ ((rd_T30 x510000_3 0).f0) from Kd.V_mk ul510_0 ge510_0)
     clear hva_ hvn_ hvc_ ge510_0 ul510_0
     clear hcc510 hce510
     have qi510 : (0 < x510000_3.length) = True := eq_true (by omega)
     (try rw [show ((0 : Int)).toNat = 0 from rfl] at hx510_0)
     (try rw [show 0 * 5 = 0 from rfl] at hx510_0)
     (try rw [Addr.add_zero'] at hx510_0)
     (try rw [show ((0 : Int)).toNat = 0 from rfl] at hx510_1)
     (try rw [show 0 * 5 = 0 from rfl] at hx510_1)
     (try rw [Addr.add_zero'] at hx510_1)
     (try rw [show ((0 : Int)).toNat = 0 from rfl] at hx510_2)
     (try rw [show 0 * 5 = 0 from rfl] at hx510_2)
     (try rw [Addr.add_zero'] at hx510_2)
     (try rw [show ((0 : Int)).toNat = 0 from rfl] at hx510_3)
     (try rw [show 0 * 5 = 0 from rfl] at hx510_3)
     (try rw [Addr.add_zero'] at hx510_3)
     (try rw [show ((0 : Int)).toNat = 0 from rfl] at hx510_4)
     (try rw [show 0 * 5 = 0 from rfl] at hx510_4)
     (try rw [Addr.add_zero'] at hx510_4)
     have HR510_0 := bA hi510_0
     have HC510_0 := bA hl510_0
     clear hi510_0 hl510_0
     replace p510 := eq_true p510
     replace q510 := eq_true q510
     refine start_ (n := 10) (S := fun w' => w'.cell? ⟨gb509, 0, none⟩ = some (.slice (some ad510) x510000_3.length co48) ∧ w'.cell? ⟨gb509, 1, none⟩ = some (.int .i64 t501) ∧ w'.cell? ⟨gb509, 2, none⟩ = some (.int .i64 t502) ∧ w'.cell? ⟨gb509, 3, none⟩ = some (.int .i64 t503) ∧ w'.cell? ⟨gb509, 4, none⟩ = some (.int .i64 t504) ∧ w'.cell? ⟨gb509, 5, none⟩ = some (.int .i64 t505) ∧ w'.cell? ⟨gb509, 6, none⟩ = some (.int .i64 t506) ∧ w'.cell? ⟨gb509, 7, none⟩ = some (.int .i64 t507) ∧ w'.cell? ⟨gb509, 8, none⟩ = some (.int .i64 t508) ∧ w'.cell? ad510 = some (.slice A510_0 ((rd_T30 x510000_3 0).f0).length c510_0) ∧ w'.cell? ⟨ad510.block, ad510.off + 1, none⟩ = some (.int .i64 ((rd_T30 x510000_3 0).f1)) ∧ w'.cell? ⟨ad510.block, ad510.off + 2, none⟩ = some (.int .i64 ((rd_T30 x510000_3 0).f2)) ∧ w'.cell? ⟨ad510.block, ad510.off + 3, none⟩ = some (.int .i64 ((rd_T30 x510000_3 0).f3)) ∧ w'.cell? ⟨ad510.block, ad510.off + 4, none⟩ = some (.int .i64 ((rd_T30 x510000_3 0).f4))) (ds := [7, 9]) #[false,false,false,false,false,false,false,false,false,false] (by kernel_rfl) rfl rfl ⟨bq BK509 0, bq BK509 1, bq BK509 2, bq BK509 3, bq BK509 4, bq BK509 5, bq BK509 6, bq BK509 7, bq BK509 8, hx510_0, hx510_1, hx510_2, hx510_3, hx510_4⟩ (fun hHeld => ?_); refine with_tabW apogeelaw13_RulesPhases.tab14 apogeelaw13_RulesPhases.bits14 (fun HT_ HW_ => ?_)
     generalize wr.drew = w49 at HO_510000 BK483 BK509 HB HL510_0 HR510_0 hx510_0 hx510_1 hx510_2 hx510_3 hx510_4 hHeld ⊢
     refine bU (i := 0) (N := some 55) ?_
     refine bU (i := 2) (N := some 57) ?_
     refine bW (i := 1) (N := some 56) hHeld ?_
     refine bW (i := 3) (N := some 58) hHeld ?_
     refine bU (i := 4) (N := some 59) ?_
     refine bW (i := 5) (N := some 60) hHeld ?_
     refine one_ (i := 6) (N := some 61) #[true,true,true,true,true,true,true,false,false,false] rfl rfl (one_of HT_.out (by kernel_rfl)) (by decide) (fun K hK => ?_)
     refine value_ (w1 := ?_) (v := ?_) (by rfl) rfl ?_ ?_
     rotate_left 2
     ·go_simp
      constructor
      ·rfl
      rfl
     refine hK.out _ _ ⟨(blk_cell (blk_alloc BK509.out _) 0).trans rfl, (blk_cell (blk_alloc BK509.out _) 1).trans rfl, (blk_cell (blk_alloc BK509.out _) 2).trans rfl, (blk_cell (blk_alloc BK509.out _) 3).trans rfl, (blk_cell (blk_alloc BK509.out _) 4).trans rfl, (blk_cell (blk_alloc BK509.out _) 5).trans rfl, (blk_cell (blk_alloc BK509.out _) 6).trans rfl, (blk_cell (blk_alloc BK509.out _) 7).trans rfl, (blk_cell (blk_alloc BK509.out _) 8).trans rfl, (World.cell?_alloc_lt _ _ _ (World.block_lt_of_cell? _ _ (hHeld.2.2.2.2.2.2.2.2.2.1))).trans (hHeld.2.2.2.2.2.2.2.2.2.1), (World.cell?_alloc_lt _ _ _ (World.block_lt_of_cell? _ _ (hHeld.2.2.2.2.2.2.2.2.2.2.1))).trans (hHeld.2.2.2.2.2.2.2.2.2.2.1), (World.cell?_alloc_lt _ _ _ (World.block_lt_of_cell? _ _ (hHeld.2.2.2.2.2.2.2.2.2.2.2.1))).trans (hHeld.2.2.2.2.2.2.2.2.2.2.2.1), (World.cell?_alloc_lt _ _ _ (World.block_lt_of_cell? _ _ (hHeld.2.2.2.2.2.2.2.2.2.2.2.2.1))).trans (hHeld.2.2.2.2.2.2.2.2.2.2.2.2.1), (World.cell?_alloc_lt _ _ _ (World.block_lt_of_cell? _ _ (hHeld.2.2.2.2.2.2.2.2.2.2.2.2.2))).trans (hHeld.2.2.2.2.2.2.2.2.2.2.2.2.2)⟩ (fun hHeld => ?_)
     clear hK K
     refine bI 61 ?_
     refine last_ (i := 7) (N := some 62) #[true,true,true,true,true,true,true,true,false,false] rfl rfl (one_of HT_.out (by kernel_rfl)) (by decide) (fun K hK => ?_)
     refine Kd.N_append_step k30 (w0 := w) w.heap.size (by rfl) (.tmp 56) (.tmp 61) 22 30 (.agg #[(.slice none 0 0), (.int .i64 0), (.int .i64 0), (.int .i64 0), (.int .i64 0)]) 56 rfl Try.underlying22 info30 rfl (by decide) (by omega) (.slice (some ad510) x510000_3.length co48) x510000_3 (⟨(rd_T30 x510000_3 0).f0, (rd_T30 x510000_3 0).f1, (rd_T30 x510000_3 0).f2, (rd_T30 x510000_3 0).f3, (rd_T30 x510000_3 0).f4⟩ : S30) [.slice A510_0 ((rd_T30 x510000_3 0).f0).length c510_0, .int .i64 ((rd_T30 x510000_3 0).f1), .int .i64 ((rd_T30 x510000_3 0).f2), .int .i64 ((rd_T30 x510000_3 0).f3), .int .i64 ((rd_T30 x510000_3 0).f4)] (fun k_ => k_ ≠ gb483 ∧ k_ ≠ gb509) (fun k_ => ((fun k_ => k_ ≠ gb483 ∧ k_ ≠ gb509)) k_ ∧ some k_ ≠ (.slice (some ad510) x510000_3.length co48 : Value).ownBlock) rfl rfl ?aP (fun _ hk => hk) ?aF ?aO ?aB ?aS ?aL ?_
     (case aP => exact (k30_mkF _ _ (⟨(rd_T30 x510000_3 0).f0, (rd_T30 x510000_3 0).f1, (rd_T30 x510000_3 0).f2, (rd_T30 x510000_3 0).f3, (rd_T30 x510000_3 0).f4⟩ : S30) (Kd.V_reads' (Kd.V_mono (ok' := (fun k_ => ((fun k_ => k_ ≠ gb483 ∧ k_ ≠ gb509)) k_ ∧ some k_ ≠ (.slice (some ad510) x510000_3.length co48 : Value).ownBlock)) (HL510_0.out) (fun k_ hk => ⟨⟨hk.1.1, hk.1.2⟩, hk.2⟩))).2.1 (Kd.V_F (Kd.V_mono (ok' := (fun k_ => ((fun k_ => k_ ≠ gb483 ∧ k_ ≠ gb509)) k_ ∧ some k_ ≠ (.slice (some ad510) x510000_3.length co48 : Value).ownBlock)) (HL510_0.out) (fun k_ hk => ⟨⟨hk.1.1, hk.1.2⟩, hk.2⟩)))))
     (case aB => exact bX)
     (case aF => exact (fun k_ hk => ⟨Kd.freshB (g := gb483) (o := .cells #[.slice A0_0 l0_0.length c0_0, .int .i64 a0_1, .int .i64 a0_2, .int .i64 a0_3, .int .i64 a0_4, .int .i64 a0_5, .int .i64 a0_6, .int .i64 a0_7, .int .i64 a0_8] 24 (0, 0)) (bP BK483) k_ hk, Kd.freshB (g := gb509) (o := .cells #[.slice (some ad510) x510000_3.length co48, .int .i64 t501, .int .i64 t502, .int .i64 t503, .int .i64 t504, .int .i64 t505, .int .i64 t506, .int .i64 t507, .int .i64 t508] 24 (0, 0)) (bP BK509) k_ hk⟩))
     (case aO => exact (bNr HO_510000))
     (case aS => exact bY)
     (case aL => have := LMc45.out; omega)
     intro v512 w50 ho hb hg hat
     rw [← Ny511.out] at ho
     have HO513 := bA (ho)
     replace BK483 := bA (blk_grown (g := gb483) (o := .cells #[.slice A0_0 l0_0.length c0_0, .int .i64 a0_1, .int .i64 a0_2, .int .i64 a0_3, .int .i64 a0_4, .int .i64 a0_5, .int .i64 a0_6, .int .i64 a0_7, .int .i64 a0_8] 24 (0, 0)) (bP BK483) hg (Kd.N_ne HO_510000.out BK483.out (by decide)))
     replace BK509 := bA (blk_grown (g := gb509) (o := .cells #[.slice (some ad510) x510000_3.length co48, .int .i64 t501, .int .i64 t502, .int .i64 t503, .int .i64 t504, .int .i64 t505, .int .i64 t506, .int .i64 t507, .int .i64 t508] 24 (0, 0)) (bP BK509) hg (Kd.N_ne HO_510000.out BK509.out (by decide)))
     replace HL510_0 := bA (Kd.V_afterv (ok := (fun k_ => k_ ≠ gb483 ∧ k_ ≠ gb509)) (by (with_reducible repeat (first | apply Kd.V_alloc | apply Kd.V_drewN | apply Kd.V_drew)); exact HL510_0.out) hg hat)
     replace HB := bA (hb)
     clear HO_510000
     clear ho hb hg hat
     obtain ⟨Ao51, co51, eo51⟩ := Kd.N_slice HO513.out
     (first | subst eo51 | (injection eo51 with f1_ f2_ f3_; have f4_ := f1_.symm; have f5_ := f3_.symm; clear f1_ f2_ f3_; subst f4_; subst f5_))
     refine hK.out _ _ ?_
     clear hK K
     refine bI 62 ?_
     refine bU (i := 8) (N := some 63) ?_
     refine last_ (i := 9) (N := none) #[true,true,true,true,true,true,true,true,true,true] rfl rfl (one_of HT_.out (by kernel_rfl)) (by decide) (fun K hK => ?_)
     have hs52 : w50.cell? ⟨gb509, 0, none⟩ = some (.slice (some ad510) x510000_3.length co48) := bq BK509 0
     have hfs52 := blk_frozen BK509.out 0
     have hns52_0 := NB483_509.out
     have hms52_0 := NB509_483.out
     refine skip_ (w1 := ?_) (by rfl) rfl ?_ ?_
     rotate_left
     ·go_simp
      rfl
     refine hK.out _ _ ?_
     clear hK K
     refine done_ (done_of HT_.out (by kernel_rfl)) ?_
     try go_wp2
     go_roundg k3
     case measure => have := HJ2.out; have := HK2.out; have := HK3.out; omega
     case rel => exact ⟨(y511), (.slice Ao51 y511.length co51), H', ⟨by have := HJ2.out; have := HK2.out; have := HK3.out; omega⟩, ⟨by (with_reducible repeat (first | apply Kd.N_alloc | apply Kd.N_drewN | apply Kd.N_drew)); exact Kd.N_mono (Kd.N_far (p := ⟨gb509, 0, none⟩) (Kd.N_mono HO513.out (fun k_ hk => (⟨hk, hk.2⟩ : _ ∧ k_ ≠ gb509))) (fun _ hk => hk.2) (.slice Ao51 y511.length co51)) (fun _ hk => ⟨hk.1.1, hk.1.2⟩)⟩, ⟨by (with_reducible repeat (first | refine blk_drewN ?_ _ | refine blk_drew ?_ | refine blk_alloc ?_ _)); refine blk_far ?_ NB483_509.out _; (with_reducible repeat (first | refine blk_drewN ?_ _ | refine blk_drew ?_ | refine blk_alloc ?_ _)); exact BK483.out⟩, ⟨by (with_reducible repeat (first | refine blk_drewN ?_ _ | refine blk_drew ?_ | refine blk_alloc ?_ _)); refine blk_put (cs := #[.slice (some ad510) x510000_3.length co48, .int .i64 t501, .int .i64 t502, .int .i64 t503, .int .i64 t504, .int .i64 t505, .int .i64 t506, .int .i64 t507, .int .i64 t508]) ?_ 0 _ rfl; (with_reducible repeat (first | refine blk_drewN ?_ _ | refine blk_drew ?_ | refine blk_alloc ?_ _)); exact BK509.out⟩, ⟨bX⟩⟩
    rw [if_neg c42] at H
    have c42b0 : decide ((x510000_3.length : Int) < 5) = false := decide_eq_false c42
    have c42b1 : decide (x510000_3.length < 5) = false := decide_eq_false (by omega)
    clear c42
    replace H := Option.bind_eq_some_iff.mp H
    obtain ⟨⟨t514, t517, t518, t519, t520, t521, t522, t523, t524⟩, A530, H⟩ := H
    replace H : (if (t514.length : Int) = (l0_0.length : Int) then (if (IntKind.u64.wrap ((t514.length : Int))) = 0 then (none) else (if 0 ≤ (wrap64 (Int.tmod (IntKind.u64.wrap (a1)) (IntKind.u64.wrap ((t514.length : Int))))) then (if (wrap64 (Int.tmod (IntKind.u64.wrap (a1)) (IntKind.u64.wrap ((t514.length : Int))))) ≤ (t514.length : Int) then (if 0 ≤ (wrap64 ((wrap64 (Int.tmod (IntKind.u64.wrap (a1)) (IntKind.u64.wrap ((t514.length : Int))))) + 1)) then (if (wrap64 ((wrap64 (Int.tmod (IntKind.u64.wrap (a1)) (IntKind.u64.wrap ((t514.length : Int))))) + 1)) ≤ (t514.length : Int) then ((erG t514 ((wrap64 (Int.tmod (IntKind.u64.wrap (a1)) (IntKind.u64.wrap ((t514.length : Int))))) : Int).toNat).bind fun y536 => (if (y536.length : Int) = 0 then ((rules_Wrong.f k3 x510000_3 t501 t502 t503 t504 t505 t506 t507 t508).bind fun t539 => (if t539 = 1 then ((rules_Wrong.f k3 y536 t517 t518 t519 t520 t521 t522 t523 (mn t524 (y536.length : Int))).bind fun t540 => (some (t540 == 1))) else (none))) else ((rules_Wrong.f k3 x510000_3 t501 t502 t503 t504 t505 t506 t507 t508).bind fun t541 => (if t541 = 1 then ((rules_Wrong.f k3 y536 t517 t518 t519 t520 t521 t522 t523 (mn t524 (y536.length : Int))).bind fun t542 => (some (t542 == 0))) else (none))))) else (none)) else (none)) else (none)) else (none))) else (none)) = some r := H
    have A53 := bA A530
    clear A530
    by_cases c54 : (t514.length : Int) = (l0_0.length : Int)
    rotate_left
    ·rw [if_neg c54] at H
     exact absurd H (by simp)
    rw [if_pos c54] at H
    have c54b0 : ((t514.length : Int) == (l0_0.length : Int)) = true := beq_iff_eq.mpr c54
    have c54b1 : ((t514.length : Int) != (l0_0.length : Int)) = false := bne_eq_false_iff_eq.mpr c54
    have c54b2 : (t514.length == l0_0.length) = true := by first | simpa using c54 | (simp at c54 ⊢; omega)
    clear c54
    by_cases c55 : (IntKind.u64.wrap ((t514.length : Int))) = 0
    ·rw [if_pos c55] at H
     exact absurd H (by simp)
    rw [if_neg c55] at H
    have c55b0 : ((IntKind.u64.wrap ((t514.length : Int))) == 0) = false := beq_eq_false_iff_ne.mpr c55
    have c55b1 : ((IntKind.u64.wrap ((t514.length : Int))) != 0) = true := bne_iff_ne.mpr c55
    have c55b2 : (t514 = []) = False := eq_false (fun h_ => c55 (by rw [h_]; rfl))
    obtain ⟨ji56, hji56⟩ : ∃ j_ : Int, (wrap64 (Int.tmod (IntKind.u64.wrap (a1)) (IntKind.u64.wrap ((t514.length : Int))))) = j_ := ⟨_, rfl⟩
    replace H : (if 0 ≤ (ji56) then (if (ji56) ≤ (t514.length : Int) then (if 0 ≤ (wrap64 ((ji56) + 1)) then (if (wrap64 ((ji56) + 1)) ≤ (t514.length : Int) then ((erG t514 ((ji56) : Int).toNat).bind fun y536 => (if (y536.length : Int) = 0 then ((rules_Wrong.f k3 x510000_3 t501 t502 t503 t504 t505 t506 t507 t508).bind fun t539 => (if t539 = 1 then ((rules_Wrong.f k3 y536 t517 t518 t519 t520 t521 t522 t523 (mn t524 (y536.length : Int))).bind fun t540 => (some (t540 == 1))) else (none))) else ((rules_Wrong.f k3 x510000_3 t501 t502 t503 t504 t505 t506 t507 t508).bind fun t541 => (if t541 = 1 then ((rules_Wrong.f k3 y536 t517 t518 t519 t520 t521 t522 t523 (mn t524 (y536.length : Int))).bind fun t542 => (some (t542 == 0))) else (none))))) else (none)) else (none)) else (none)) else (none)) = some r := by first | (rw [hji56] at H; exact H) | (simp only [hji56] at H ⊢; exact H)
    (try rw [hji56] at A53)
    have hji56w : (IntKind.i64.wrap (Int.tmod (IntKind.u64.wrap (a1)) (IntKind.u64.wrap ((t514.length : Int))))) = ji56 := (i64_w _).trans hji56
    by_cases c57 : 0 ≤ (ji56)
    rotate_left
    ·rw [if_neg c57] at H
     exact absurd H (by simp)
    rw [if_pos c57] at H
    have c57b0 := eq_true c57
    have c57b1 : decide (0 ≤ (ji56)) = true := decide_eq_true c57
    clear c57
    by_cases c58 : (ji56) ≤ (t514.length : Int)
    rotate_left
    ·rw [if_neg c58] at H
     exact absurd H (by simp)
    rw [if_pos c58] at H
    have c58b0 := eq_true c58
    have c58b1 : decide ((ji56) ≤ (t514.length : Int)) = true := decide_eq_true c58
    clear c58
    obtain ⟨y526, hy526⟩ : ∃ y_ : List (S30), y_ = (t514.take ((ji56) : Int).toNat) := ⟨_, rfl⟩
    replace H : (if 0 ≤ (wrap64 ((ji56) + 1)) then (if (wrap64 ((ji56) + 1)) ≤ (t514.length : Int) then ((erG t514 ((ji56) : Int).toNat).bind fun y536 => (if (y536.length : Int) = 0 then ((rules_Wrong.f k3 x510000_3 t501 t502 t503 t504 t505 t506 t507 t508).bind fun t539 => (if t539 = 1 then ((rules_Wrong.f k3 y536 t517 t518 t519 t520 t521 t522 t523 (mn t524 (y536.length : Int))).bind fun t540 => (some (t540 == 1))) else (none))) else ((rules_Wrong.f k3 x510000_3 t501 t502 t503 t504 t505 t506 t507 t508).bind fun t541 => (if t541 = 1 then ((rules_Wrong.f k3 y536 t517 t518 t519 t520 t521 t522 t523 (mn t524 (y536.length : Int))).bind fun t542 => (some (t542 == 0))) else (none))))) else (none)) else (none)) = some r := by first | (rw [hy526]; with_reducible exact H) | (have H2_ := (Option.bind_some _ _).symm.trans H; rw [hy526]; with_reducible exact H2_) | (have H2_ := (Option.bind_some _ _).symm.trans H; with_reducible exact H2_) | with_reducible exact H | (rw [hy526]; exact H) | exact H
    have Ny526 := bA hy526
    clear hy526
    obtain ⟨ji59, hji59⟩ : ∃ j_ : Int, (wrap64 ((ji56) + 1)) = j_ := ⟨_, rfl⟩
    replace H : (if 0 ≤ (ji59) then (if (ji59) ≤ (t514.length : Int) then ((erG t514 ((ji56) : Int).toNat).bind fun y536 => (if (y536.length : Int) = 0 then ((rules_Wrong.f k3 x510000_3 t501 t502 t503 t504 t505 t506 t507 t508).bind fun t539 => (if t539 = 1 then ((rules_Wrong.f k3 y536 t517 t518 t519 t520 t521 t522 t523 (mn t524 (y536.length : Int))).bind fun t540 => (some (t540 == 1))) else (none))) else ((rules_Wrong.f k3 x510000_3 t501 t502 t503 t504 t505 t506 t507 t508).bind fun t541 => (if t541 = 1 then ((rules_Wrong.f k3 y536 t517 t518 t519 t520 t521 t522 t523 (mn t524 (y536.length : Int))).bind fun t542 => (some (t542 == 0))) else (none))))) else (none)) else (none)) = some r := by first | (rw [hji59] at H; exact H) | (simp only [hji59] at H ⊢; exact H)
    (try rw [hji59] at A53)
    have hji59w : (IntKind.i64.wrap ((ji56) + 1)) = ji59 := (i64_w _).trans hji59
    by_cases c60 : 0 ≤ (ji59)
    rotate_left
    ·rw [if_neg c60] at H
     exact absurd H (by simp)
    rw [if_pos c60] at H
    have c60b0 := eq_true c60
    have c60b1 : decide (0 ≤ (ji59)) = true := decide_eq_true c60
    clear c60
    by_cases c61 : (ji59) ≤ (t514.length : Int)
    rotate_left
    ·rw [if_neg c61] at H
     exact absurd H (by simp)
    rw [if_pos c61] at H
    have c61b0 := eq_true c61
    have c61b1 : decide ((ji59) ≤ (t514.length : Int)) = true := decide_eq_true c61
    clear c61
    obtain ⟨y531, hy531⟩ : ∃ y_ : List (S30), y_ = (t514.drop ((ji59) : Int).toNat) := ⟨_, rfl⟩
    replace H : ((erG t514 ((ji56) : Int).toNat).bind fun y536 => (if (y536.length : Int) = 0 then ((rules_Wrong.f k3 x510000_3 t501 t502 t503 t504 t505 t506 t507 t508).bind fun t539 => (if t539 = 1 then ((rules_Wrong.f k3 y536 t517 t518 t519 t520 t521 t522 t523 (mn t524 (y536.length : Int))).bind fun t540 => (some (t540 == 1))) else (none))) else ((rules_Wrong.f k3 x510000_3 t501 t502 t503 t504 t505 t506 t507 t508).bind fun t541 => (if t541 = 1 then ((rules_Wrong.f k3 y536 t517 t518 t519 t520 t521 t522 t523 (mn t524 (y536.length : Int))).bind fun t542 => (some (t542 == 0))) else (none))))) = some r := by first | (rw [hy531]; with_reducible exact H) | (have H2_ := (Option.bind_some _ _).symm.trans H; rw [hy531]; with_reducible exact H2_) | (have H2_ := (Option.bind_some _ _).symm.trans H; with_reducible exact H2_) | with_reducible exact H | (rw [hy531]; exact H) | exact H
    have Ny531 := bA hy531
    clear hy531
    obtain ⟨LM536, H⟩ := erG_open H
    have hlw_ : IntKind.u64.wrap (t514.length : Int) = (t514.length : Int) := by have h_ := LM536; simp only [IntKind.wrap, IntKind.bits, IntKind.signed]; simp; omega
    have hji56v : wrap64 ((IntKind.u64.wrap a1).tmod (t514.length : Int)) = ji56 := by rw [← hji56, hlw_]
    have hji56u : IntKind.i64.wrap ((IntKind.u64.wrap a1).tmod (t514.length : Int)) = ji56 := by rw [← hji56w, hlw_]
    obtain ⟨y536, hy536⟩ : ∃ y_ : List (S30), y_ = (t514.eraseIdx ((ji56) : Int).toNat) := ⟨_, rfl⟩
    replace H : (if (y536.length : Int) = 0 then ((rules_Wrong.f k3 x510000_3 t501 t502 t503 t504 t505 t506 t507 t508).bind fun t539 => (if t539 = 1 then ((rules_Wrong.f k3 y536 t517 t518 t519 t520 t521 t522 t523 (mn t524 (y536.length : Int))).bind fun t540 => (some (t540 == 1))) else (none))) else ((rules_Wrong.f k3 x510000_3 t501 t502 t503 t504 t505 t506 t507 t508).bind fun t541 => (if t541 = 1 then ((rules_Wrong.f k3 y536 t517 t518 t519 t520 t521 t522 t523 (mn t524 (y536.length : Int))).bind fun t542 => (some (t542 == 0))) else (none)))) = some r := by first | (rw [hy536]; with_reducible exact H) | (have H2_ := (Option.bind_some _ _).symm.trans H; rw [hy536]; with_reducible exact H2_) | (have H2_ := (Option.bind_some _ _).symm.trans H; with_reducible exact H2_) | with_reducible exact H | (rw [hy536]; exact H) | exact H
    have Ny536 := bA hy536
    clear hy536
    obtain ⟨ji62, hji62⟩ : ∃ j_ : Int, (mn t524 (y536.length : Int)) = j_ := ⟨_, rfl⟩
    replace H : (if (y536.length : Int) = 0 then ((rules_Wrong.f k3 x510000_3 t501 t502 t503 t504 t505 t506 t507 t508).bind fun t539 => (if t539 = 1 then ((rules_Wrong.f k3 y536 t517 t518 t519 t520 t521 t522 t523 (ji62)).bind fun t540 => (some (t540 == 1))) else (none))) else ((rules_Wrong.f k3 x510000_3 t501 t502 t503 t504 t505 t506 t507 t508).bind fun t541 => (if t541 = 1 then ((rules_Wrong.f k3 y536 t517 t518 t519 t520 t521 t522 t523 (ji62)).bind fun t542 => (some (t542 == 0))) else (none)))) = some r := by first | (rw [hji62] at H; exact H) | (simp only [hji62] at H ⊢; exact H)
    (try rw [hji62] at A53)
    have hji62_ : (if (y536.length : Int) < t524 then (y536.length : Int) else t524) = ji62 := hji62
    by_cases c63 : (y536.length : Int) = 0
    ·rw [if_pos c63] at H
     have c63b0 : ((y536.length : Int) == 0) = true := beq_iff_eq.mpr c63
     have c63b1 : ((y536.length : Int) != 0) = false := bne_eq_false_iff_eq.mpr c63
     clear c63
     replace H := Option.bind_eq_some_iff.mp H
     obtain ⟨t539, A640, H⟩ := H
     have A64 := bA A640
     clear A640
     by_cases c65 : t539 = 1
     rotate_left
     ·rw [if_neg c65] at H
      exact absurd H (by simp)
     rw [if_pos c65] at H
     have c65b0 : (t539 == 1) = true := beq_iff_eq.mpr c65
     have c65b1 : (t539 != 1) = false := bne_eq_false_iff_eq.mpr c65
     clear c65
     replace H := Option.bind_eq_some_iff.mp H
     obtain ⟨t540, A660, H⟩ := H
     have A66 := bA A660
     clear A660
     obtain rfl := Option.some.inj H
     have hnb67 := NB509_483.out
     have hnc67 := NB483_509.out
     obtain ⟨hcz68_0, hcz68_1, hcz68_2, hcz68_3, hcz68_4, hcz68_5, hcz68_6, hcz68_7, hcz68_8, hfz68_0, hfz68_1, hfz68_2, hfz68_3, hfz68_4, hfz68_5, hfz68_6, hfz68_7, hfz68_8⟩ := bc9 BK509
     obtain ⟨Ao69, co69, eo69⟩ := Kd.N_slice HO_510000.out
     subst eo69
     obtain ⟨hcz70_0, hcz70_1, hcz70_2, hcz70_3, hcz70_4, hcz70_5, hcz70_6, hcz70_7, hcz70_8, hfz70_0, hfz70_1, hfz70_2, hfz70_3, hfz70_4, hfz70_5, hfz70_6, hfz70_7, hfz70_8⟩ := bc9 BK483
     try go_wp2_with (first | ((first | ((with_reducible refine gate_callee (f := 24) rfl ?_); refine bC (some 65) Try.func24 #[.agg #[.slice A0_0 l0_0.length c0_0, .int .i64 a0_1, .int .i64 a0_2, .int .i64 a0_3, .int .i64 a0_4, .int .i64 a0_5, .int .i64 a0_6, .int .i64 a0_7, .int .i64 a0_8]] ?_) | go_at_call 24); (with_reducible refine (rules_Copy.calls k3 (fun k_ => k_ < w.heap.size) _ _ l0_0 a0_1 a0_2 a0_3 a0_4 a0_5 a0_6 a0_7 a0_8 t514 t517 t518 t519 t520 t521 t522 t523 t524 _ ?side1 A53.out).mono ?_); (case side1 => exact Kd.V_mk HC0_0.out (Kd.F_below (Kd.C_F k30_heap HR0_0.out) bX)); rintro e w71 ⟨v515, rfl, ho0, hb⟩; (first | refine ⟨_, rfl, ?_⟩ | skip); have HO516 := bA (Kd.N_lower (Kd.N_mono (ok' := fun k_ => some k_ ≠ (.slice Ao69 x510000_3.length co69 : Value).ownBlock ∧ k_ ≠ gb483 ∧ k_ ≠ gb509) ho0 (fun k_ hk_ => ⟨Or.elim hk_ (fun hs_ => fun e_ => Nat.not_le.2 hs_ (Kd.N_base HO_510000.out k_ e_.symm)) (fun hn_ => (Kd.fresh' (Kd.N_lt (bNr HO_510000)) k_ hn_)), Or.elim hk_ (fun hs_ => fun e_ => Nat.not_le.2 hs_ (by rw [e_]; exact GW483.out)) (fun hn_ => (Kd.freshB (g := gb483) (o := .cells #[.slice A0_0 l0_0.length c0_0, .int .i64 a0_1, .int .i64 a0_2, .int .i64 a0_3, .int .i64 a0_4, .int .i64 a0_5, .int .i64 a0_6, .int .i64 a0_7, .int .i64 a0_8] 24 (0, 0)) (bP BK483) k_ hn_)), Or.elim hk_ (fun hs_ => fun e_ => Nat.not_le.2 hs_ (by rw [e_]; exact GW509.out)) (fun hn_ => (Kd.freshB (g := gb509) (o := .cells #[.slice Ao69 x510000_3.length co69, .int .i64 t501, .int .i64 t502, .int .i64 t503, .int .i64 t504, .int .i64 t505, .int .i64 t506, .int .i64 t507, .int .i64 t508] 24 (0, 0)) (bP BK509) k_ hn_))⟩)) bY); replace HO_510000 := bA (Kd.N_elder' (bNr HO_510000) (Kd.N_base ho0) hb); replace BK483 := bA (bB BK483 hb); replace BK509 := bA (bB BK509 hb); replace HB := bA (bS hb); (try clear hb); (try clear ho0)) | ((with_reducible refine gate_dst (N := 9) rfl ?_); refine bE (N := 9) (cs := #[.slice none 0 0, .int .i64 0, .int .i64 0, .int .i64 0, .int .i64 0, .int .i64 0, .int .i64 0, .int .i64 0, .int .i64 0]) (t := 24) ?_; intro gb525 hg w72 hbox hb; have BK525 := bA (hbox); have GW525 := bA (bZ hg); have GE525 := bA (bZ hg); have NB483_525 := bA (bL BK483 hg); have NB525_483 := bA (bG BK483 hg); have NB509_525 := bA (bL BK509 hg); have NB525_509 := bA (bG BK509 hg); replace HO_510000 := bA (Kd.N_below (Kd.N_elderB (bNr HO_510000) gb525 (Nat.le_of_eq hg.symm)) hb); replace HO516 := bA (Kd.N_below (Kd.N_elderB (bNr HO516) gb525 (Nat.le_of_eq hg.symm)) hb); replace BK483 := bA (bB BK483 hb); replace BK509 := bA (bB BK509 hb); replace HB := bA (bS hb); clear hb hbox hg; obtain ⟨Ao73, co73, eo73⟩ := Kd.N_slice HO516.out; subst eo73; have hnb74 := NB525_483.out; have hnc74 := NB483_525.out; have hnb75 := NB525_509.out; have hnc75 := NB509_525.out; obtain ⟨hcz76_0, hcz76_1, hcz76_2, hcz76_3, hcz76_4, hcz76_5, hcz76_6, hcz76_7, hcz76_8, hfz76_0, hfz76_1, hfz76_2, hfz76_3, hfz76_4, hfz76_5, hfz76_6, hfz76_7, hfz76_8⟩ := bc9 BK525; obtain ⟨hcz77_0, hcz77_1, hcz77_2, hcz77_3, hcz77_4, hcz77_5, hcz77_6, hcz77_7, hcz77_8, hfz77_0, hfz77_1, hfz77_2, hfz77_3, hfz77_4, hfz77_5, hfz77_6, hfz77_7, hfz77_8⟩ := bc9 BK483))
     have n0_ : Aside0 (Kd.N k30 30 (((((((((w72.setCell ⟨gb525, 0, none⟩ (.slice Ao73 t514.length co73)).setCell ⟨gb525, 1, none⟩ (.int .i64 t517)).setCell ⟨gb525, 2, none⟩ (.int .i64 t518)).setCell ⟨gb525, 3, none⟩ (.int .i64 t519)).setCell ⟨gb525, 4, none⟩ (.int .i64 t520)).setCell ⟨gb525, 5, none⟩ (.int .i64 t521)).setCell ⟨gb525, 6, none⟩ (.int .i64 t522)).setCell ⟨gb525, 7, none⟩ (.int .i64 t523)).setCell ⟨gb525, 8, none⟩ (.int .i64 t524)) w.heap.size (fun k_ => some k_ ≠ (.slice Ao73 t514.length co73 : Value).ownBlock ∧ k_ ≠ gb483 ∧ k_ ≠ gb509 ∧ k_ ≠ gb525) (.slice Ao69 x510000_3.length co69) x510000_3) := ⟨by (with_reducible repeat (first | apply Kd.N_alloc | apply Kd.N_drewN | apply Kd.N_drew)); exact Kd.N_mono (Kd.N_far (p := ⟨gb525, 8, none⟩) (Kd.N_far (p := ⟨gb525, 7, none⟩) (Kd.N_far (p := ⟨gb525, 6, none⟩) (Kd.N_far (p := ⟨gb525, 5, none⟩) (Kd.N_far (p := ⟨gb525, 4, none⟩) (Kd.N_far (p := ⟨gb525, 3, none⟩) (Kd.N_far (p := ⟨gb525, 2, none⟩) (Kd.N_far (p := ⟨gb525, 1, none⟩) (Kd.N_far (p := ⟨gb525, 0, none⟩) (Kd.N_mono HO_510000.out (fun k_ hk => (⟨hk, hk.2⟩ : _ ∧ k_ ≠ gb525))) (fun _ hk => hk.2) (.slice Ao73 t514.length co73)) (fun _ hk => hk.2) (.int .i64 t517)) (fun _ hk => hk.2) (.int .i64 t518)) (fun _ hk => hk.2) (.int .i64 t519)) (fun _ hk => hk.2) (.int .i64 t520)) (fun _ hk => hk.2) (.int .i64 t521)) (fun _ hk => hk.2) (.int .i64 t522)) (fun _ hk => hk.2) (.int .i64 t523)) (fun _ hk => hk.2) (.int .i64 t524)) (fun _ hk => ⟨hk.1.1.2, ⟨hk.1.1.1.1, ⟨hk.1.1.1.2, hk.1.2⟩⟩⟩)⟩
     have n1_ : Aside0 (Kd.N k30 30 (((((((((w72.setCell ⟨gb525, 0, none⟩ (.slice Ao73 t514.length co73)).setCell ⟨gb525, 1, none⟩ (.int .i64 t517)).setCell ⟨gb525, 2, none⟩ (.int .i64 t518)).setCell ⟨gb525, 3, none⟩ (.int .i64 t519)).setCell ⟨gb525, 4, none⟩ (.int .i64 t520)).setCell ⟨gb525, 5, none⟩ (.int .i64 t521)).setCell ⟨gb525, 6, none⟩ (.int .i64 t522)).setCell ⟨gb525, 7, none⟩ (.int .i64 t523)).setCell ⟨gb525, 8, none⟩ (.int .i64 t524)) w.heap.size (fun k_ => some k_ ≠ (.slice Ao69 x510000_3.length co69 : Value).ownBlock ∧ k_ ≠ gb483 ∧ k_ ≠ gb509 ∧ k_ ≠ gb525) (.slice Ao73 t514.length co73) t514) := ⟨by (with_reducible repeat (first | apply Kd.N_alloc | apply Kd.N_drewN | apply Kd.N_drew)); exact Kd.N_mono (Kd.N_far (p := ⟨gb525, 8, none⟩) (Kd.N_far (p := ⟨gb525, 7, none⟩) (Kd.N_far (p := ⟨gb525, 6, none⟩) (Kd.N_far (p := ⟨gb525, 5, none⟩) (Kd.N_far (p := ⟨gb525, 4, none⟩) (Kd.N_far (p := ⟨gb525, 3, none⟩) (Kd.N_far (p := ⟨gb525, 2, none⟩) (Kd.N_far (p := ⟨gb525, 1, none⟩) (Kd.N_far (p := ⟨gb525, 0, none⟩) (Kd.N_mono HO516.out (fun k_ hk => (⟨hk, hk.2⟩ : _ ∧ k_ ≠ gb525))) (fun _ hk => hk.2) (.slice Ao73 t514.length co73)) (fun _ hk => hk.2) (.int .i64 t517)) (fun _ hk => hk.2) (.int .i64 t518)) (fun _ hk => hk.2) (.int .i64 t519)) (fun _ hk => hk.2) (.int .i64 t520)) (fun _ hk => hk.2) (.int .i64 t521)) (fun _ hk => hk.2) (.int .i64 t522)) (fun _ hk => hk.2) (.int .i64 t523)) (fun _ hk => hk.2) (.int .i64 t524)) (fun _ hk => ⟨hk.1.1.1, ⟨hk.1.1.2.1, ⟨hk.1.1.2.2, hk.1.2⟩⟩⟩)⟩
     have n2_ : Aside0 ((((((((((w72.setCell ⟨gb525, 0, none⟩ (.slice Ao73 t514.length co73)).setCell ⟨gb525, 1, none⟩ (.int .i64 t517)).setCell ⟨gb525, 2, none⟩ (.int .i64 t518)).setCell ⟨gb525, 3, none⟩ (.int .i64 t519)).setCell ⟨gb525, 4, none⟩ (.int .i64 t520)).setCell ⟨gb525, 5, none⟩ (.int .i64 t521)).setCell ⟨gb525, 6, none⟩ (.int .i64 t522)).setCell ⟨gb525, 7, none⟩ (.int .i64 t523)).setCell ⟨gb525, 8, none⟩ (.int .i64 t524)).heap[gb483]? = some (.cells #[.slice A0_0 l0_0.length c0_0, .int .i64 a0_1, .int .i64 a0_2, .int .i64 a0_3, .int .i64 a0_4, .int .i64 a0_5, .int .i64 a0_6, .int .i64 a0_7, .int .i64 a0_8] 24 (0, 0))) := ⟨by (repeat ((with_reducible repeat (first | refine blk_drewN ?_ _ | refine blk_drew ?_ | refine blk_alloc ?_ _)); refine blk_far ?_ NB483_525.out _)); (with_reducible repeat (first | refine blk_drewN ?_ _ | refine blk_drew ?_ | refine blk_alloc ?_ _)); exact BK483.out⟩
     have n3_ : Aside0 ((((((((((w72.setCell ⟨gb525, 0, none⟩ (.slice Ao73 t514.length co73)).setCell ⟨gb525, 1, none⟩ (.int .i64 t517)).setCell ⟨gb525, 2, none⟩ (.int .i64 t518)).setCell ⟨gb525, 3, none⟩ (.int .i64 t519)).setCell ⟨gb525, 4, none⟩ (.int .i64 t520)).setCell ⟨gb525, 5, none⟩ (.int .i64 t521)).setCell ⟨gb525, 6, none⟩ (.int .i64 t522)).setCell ⟨gb525, 7, none⟩ (.int .i64 t523)).setCell ⟨gb525, 8, none⟩ (.int .i64 t524)).heap[gb509]? = some (.cells #[.slice Ao69 x510000_3.length co69, .int .i64 t501, .int .i64 t502, .int .i64 t503, .int .i64 t504, .int .i64 t505, .int .i64 t506, .int .i64 t507, .int .i64 t508] 24 (0, 0))) := ⟨by (repeat ((with_reducible repeat (first | refine blk_drewN ?_ _ | refine blk_drew ?_ | refine blk_alloc ?_ _)); refine blk_far ?_ NB509_525.out _)); (with_reducible repeat (first | refine blk_drewN ?_ _ | refine blk_drew ?_ | refine blk_alloc ?_ _)); exact BK509.out⟩
     have n4_ : Aside0 ((((((((((w72.setCell ⟨gb525, 0, none⟩ (.slice Ao73 t514.length co73)).setCell ⟨gb525, 1, none⟩ (.int .i64 t517)).setCell ⟨gb525, 2, none⟩ (.int .i64 t518)).setCell ⟨gb525, 3, none⟩ (.int .i64 t519)).setCell ⟨gb525, 4, none⟩ (.int .i64 t520)).setCell ⟨gb525, 5, none⟩ (.int .i64 t521)).setCell ⟨gb525, 6, none⟩ (.int .i64 t522)).setCell ⟨gb525, 7, none⟩ (.int .i64 t523)).setCell ⟨gb525, 8, none⟩ (.int .i64 t524)).heap[gb525]? = some (.cells #[.slice Ao73 t514.length co73, .int .i64 t517, .int .i64 t518, .int .i64 t519, .int .i64 t520, .int .i64 t521, .int .i64 t522, .int .i64 t523, .int .i64 t524] 24 (0, 0))) := ⟨by (with_reducible repeat (first | refine blk_drewN ?_ _ | refine blk_drew ?_ | refine blk_alloc ?_ _)); refine blk_put (cs := #[.slice Ao73 t514.length co73, .int .i64 t517, .int .i64 t518, .int .i64 t519, .int .i64 t520, .int .i64 t521, .int .i64 t522, .int .i64 t523, .int .i64 0]) ?_ 8 _ rfl; (with_reducible repeat (first | refine blk_drewN ?_ _ | refine blk_drew ?_ | refine blk_alloc ?_ _)); refine blk_put (cs := #[.slice Ao73 t514.length co73, .int .i64 t517, .int .i64 t518, .int .i64 t519, .int .i64 t520, .int .i64 t521, .int .i64 t522, .int .i64 0, .int .i64 0]) ?_ 7 _ rfl; (with_reducible repeat (first | refine blk_drewN ?_ _ | refine blk_drew ?_ | refine blk_alloc ?_ _)); refine blk_put (cs := #[.slice Ao73 t514.length co73, .int .i64 t517, .int .i64 t518, .int .i64 t519, .int .i64 t520, .int .i64 t521, .int .i64 0, .int .i64 0, .int .i64 0]) ?_ 6 _ rfl; (with_reducible repeat (first | refine blk_drewN ?_ _ | refine blk_drew ?_ | refine blk_alloc ?_ _)); refine blk_put (cs := #[.slice Ao73 t514.length co73, .int .i64 t517, .int .i64 t518, .int .i64 t519, .int .i64 t520, .int .i64 0, .int .i64 0, .int .i64 0, .int .i64 0]) ?_ 5 _ rfl; (with_reducible repeat (first | refine blk_drewN ?_ _ | refine blk_drew ?_ | refine blk_alloc ?_ _)); refine blk_put (cs := #[.slice Ao73 t514.length co73, .int .i64 t517, .int .i64 t518, .int .i64 t519, .int .i64 0, .int .i64 0, .int .i64 0, .int .i64 0, .int .i64 0]) ?_ 4 _ rfl; (with_reducible repeat (first | refine blk_drewN ?_ _ | refine blk_drew ?_ | refine blk_alloc ?_ _)); refine blk_put (cs := #[.slice Ao73 t514.length co73, .int .i64 t517, .int .i64 t518, .int .i64 0, .int .i64 0, .int .i64 0, .int .i64 0, .int .i64 0, .int .i64 0]) ?_ 3 _ rfl; (with_reducible repeat (first | refine blk_drewN ?_ _ | refine blk_drew ?_ | refine blk_alloc ?_ _)); refine blk_put (cs := #[.slice Ao73 t514.length co73, .int .i64 t517, .int .i64 0, .int .i64 0, .int .i64 0, .int .i64 0, .int .i64 0, .int .i64 0, .int .i64 0]) ?_ 2 _ rfl; (with_reducible repeat (first | refine blk_drewN ?_ _ | refine blk_drew ?_ | refine blk_alloc ?_ _)); refine blk_put (cs := #[.slice Ao73 t514.length co73, .int .i64 0, .int .i64 0, .int .i64 0, .int .i64 0, .int .i64 0, .int .i64 0, .int .i64 0, .int .i64 0]) ?_ 1 _ rfl; (with_reducible repeat (first | refine blk_drewN ?_ _ | refine blk_drew ?_ | refine blk_alloc ?_ _)); refine blk_put (cs := #[.slice none 0 0, .int .i64 0, .int .i64 0, .int .i64 0, .int .i64 0, .int .i64 0, .int .i64 0, .int .i64 0, .int .i64 0]) ?_ 0 _ rfl; (with_reducible repeat (first | refine blk_drewN ?_ _ | refine blk_drew ?_ | refine blk_alloc ?_ _)); exact BK525.out⟩
     have n5_ : Aside0 (Below w.heap.size w (((((((((w72.setCell ⟨gb525, 0, none⟩ (.slice Ao73 t514.length co73)).setCell ⟨gb525, 1, none⟩ (.int .i64 t517)).setCell ⟨gb525, 2, none⟩ (.int .i64 t518)).setCell ⟨gb525, 3, none⟩ (.int .i64 t519)).setCell ⟨gb525, 4, none⟩ (.int .i64 t520)).setCell ⟨gb525, 5, none⟩ (.int .i64 t521)).setCell ⟨gb525, 6, none⟩ (.int .i64 t522)).setCell ⟨gb525, 7, none⟩ (.int .i64 t523)).setCell ⟨gb525, 8, none⟩ (.int .i64 t524))) := ⟨bX⟩
     (try clear HO_510000)
     (try clear HO516)
     (try clear BK483)
     (try clear BK509)
     (try clear BK525)
     (try clear HB)
     generalize (((((((((w72.setCell ⟨gb525, 0, none⟩ (.slice Ao73 t514.length co73)).setCell ⟨gb525, 1, none⟩ (.int .i64 t517)).setCell ⟨gb525, 2, none⟩ (.int .i64 t518)).setCell ⟨gb525, 3, none⟩ (.int .i64 t519)).setCell ⟨gb525, 4, none⟩ (.int .i64 t520)).setCell ⟨gb525, 5, none⟩ (.int .i64 t521)).setCell ⟨gb525, 6, none⟩ (.int .i64 t522)).setCell ⟨gb525, 7, none⟩ (.int .i64 t523)).setCell ⟨gb525, 8, none⟩ (.int .i64 t524)) = w78 at n0_ n1_ n2_ n3_ n4_ n5_ ⊢
     have HO_510000 := n0_
     have HO516 := n1_
     have BK483 := n2_
     have BK509 := n3_
     have BK525 := n4_
     have HB := n5_
     clear n0_ n1_ n2_ n3_ n4_ n5_
     replace HO_510000 := bA (Kd.N_drew HO_510000.out)
     replace HO516 := bA (Kd.N_drew HO516.out)
     replace BK483 := bA (blk_drew BK483.out)
     replace BK509 := bA (blk_drew BK509.out)
     replace BK525 := bA (blk_drew BK525.out)
     replace HB := bA (below_drew1 HB.out)
     have q80 : ((ji56) : Int) ≤ ((t514.length : Int) : Int) := bo
     obtain ⟨i080, hi080, _, hsz80, _⟩ := info_parts info30
     have hroom80 : t514.length ≤ co73 := (Kd.N_reads' HO516.out).2.1
     have hC80 : Kd.F k30 _ _ Ao73 t514.length t514 := (Kd.V_at (base := w.heap.size) (Kd.N_V HO516.out)).2.2
     have hcut80 := cut_cap (P := Try.prog) 22 30 .i64 .i64 Try.underlying22 hi080 Ao73 t514.length co73 (ji56) (bo) q80 hroom80
     have hr80 := Kd.F_take (m := ((ji56) : Int).toNat) hC80 (by omega)
     have hy80 : y526.length = ((ji56) : Int).toNat := (by rw [Ny526.out, List.length_take]; omega)
     rw [← Ny526.out] at hr80
     rw [← hy80] at hcut80
     have HO530 := bA (show Kd.V k30 30 _ w.heap.size _ (.slice Ao73 y526.length y526.length) y526 from Kd.V_mk (by omega) hr80)
     have HC530 := bA (show y526.length ≤ y526.length from by omega)
     clear hr80 hC80 hroom80 hi080 hsz80
     have KY80 := bA hy80
     clear hy80
     replace q80 := eq_true q80
     have q81 : ((ji59) : Int) ≤ ((t514.length : Int) : Int) := bo
     obtain ⟨i081, hi081, _, hsz81, _⟩ := info_parts info30
     have hroom81 : t514.length ≤ co73 := (Kd.N_reads' HO516.out).2.1
     have hC81 : Kd.F k30 _ _ Ao73 t514.length t514 := (Kd.V_at (base := w.heap.size) (Kd.N_V HO516.out)).2.2
     have q081 : (0 : Int) ≤ ((ji59) : Int) := bo
     have hcut81 := cut_from (P := Try.prog) 22 30 .i64 Try.underlying22 hi081 5 hsz81 Ao73 t514.length co73 (ji59) q081 q81
     have hr81 := Kd.F_cut (m := ((ji59) : Int).toNat) (c := co73) hC81 (by omega) hroom81
     obtain ⟨A81, hA81⟩ : ∃ A1, A1 = (if co73 = ((ji59) : Int).toNat then Ao73 else (Ao73 : Option Addr).map (·.add (((ji59) : Int).toNat * 5))) := ⟨_, rfl⟩
     obtain ⟨c81, hc81⟩ : ∃ c1, c1 = co73 - ((ji59) : Int).toNat := ⟨_, rfl⟩
     have hy81 : y531.length = t514.length - ((ji59) : Int).toNat := (by rw [Ny531.out, List.length_drop] <;> omega)
     rw [show (t514).drop ((ji59) : Int).toNat = y531 from Ny531.out.symm] at hr81
     replace hr81 : Kd.F k30 _ _ A81 y531.length y531 := (by rw [hA81]; exact hr81)
     rw [← hy81, ← hA81, ← hc81] at hcut81
     have HO535 := bA (show Kd.V k30 30 _ w.heap.size _ (.slice A81 y531.length c81) y531 from Kd.V_mk (by rw [hy81, hc81]; exact Nat.sub_le_sub_right hroom81 _) hr81)
     have HC535 := bA (show y531.length ≤ c81 from by rw [hy81, hc81]; exact Nat.sub_le_sub_right hroom81 _)
     clear hr81 hC81 hroom81 hi081 hsz81 hc81
     have KY81 := bA hy81
     have KA81 := bA hA81
     clear hy81 hA81
     replace q81 := eq_true q81
     obtain ⟨go83, co83, eo83, gb83, gl83, cl83, HG83⟩ := Kd.N_form HO516.out (by have hj_ : 0 ≤ ((ji56) : Int) := bo; have hl_ : (ji59 : Int) ≤ (t514.length : Int) := bo; have hh_ : ((ji56) : Int) ≤ (t514.length : Int) := bo; rw [← hji59] at hl_; unfold wrap64 at hl_; omega)
     (first | cases eo83 | (injection eo83 with ea_ en_ ec_; (first | subst ea_ | (injection ea_ with ea_; subst ea_)); subst ec_; clear en_))
     have GB83 := bA gb83
     have GG83 := bA HG83
     clear gb83 gl83 HG83
     refine start_ (n := 13) (S := fun w' => w'.cell? ⟨gb525, 0, none⟩ = some (.slice (some ⟨go83, 0, none⟩) t514.length co73) ∧ w'.cell? ⟨gb525, 1, none⟩ = some (.int .i64 t517) ∧ w'.cell? ⟨gb525, 2, none⟩ = some (.int .i64 t518) ∧ w'.cell? ⟨gb525, 3, none⟩ = some (.int .i64 t519) ∧ w'.cell? ⟨gb525, 4, none⟩ = some (.int .i64 t520) ∧ w'.cell? ⟨gb525, 5, none⟩ = some (.int .i64 t521) ∧ w'.cell? ⟨gb525, 6, none⟩ = some (.int .i64 t522) ∧ w'.cell? ⟨gb525, 7, none⟩ = some (.int .i64 t523) ∧ w'.cell? ⟨gb525, 8, none⟩ = some (.int .i64 t524)) (ds := [12]) #[false,false,false,false,false,false,false,false,false,false,false,false,false] (by kernel_rfl) rfl rfl ⟨bq BK525 0, bq BK525 1, bq BK525 2, bq BK525 3, bq BK525 4, bq BK525 5, bq BK525 6, bq BK525 7, bq BK525 8⟩ (fun hHeld => ?_); refine with_tabW apogeelaw13_RulesPhases.tab19 apogeelaw13_RulesPhases.bits19 (fun HT_ HW_ => ?_)
     generalize w78.drew = w79 at HO_510000 HO516 BK483 BK509 BK525 HB GG83 HO530 HO535 hHeld ⊢
     refine bU (i := 0) (N := some 81) ?_
     refine bU (i := 2) (N := some 83) ?_
     refine bU (i := 3) (N := some 84) ?_
     refine bU (i := 5) (N := some 86) ?_
     refine bU (i := 7) (N := some 88) ?_
     refine bU (i := 8) (N := some 89) ?_
     refine bW (i := 1) (N := some 82) hHeld ?_
     refine bU (i := 4) (N := some 85) ?_
     refine bW (i := 6) (N := some 87) hHeld ?_
     refine bU (i := 9) (N := some 90) ?_
     refine one_ (i := 10) (N := some 91) #[true,true,true,true,true,true,true,true,true,true,true,false,false] rfl rfl (one_of HT_.out (by kernel_rfl)) (by decide) (fun K hK => ?_)
     have hj_ : 0 ≤ ((ji56) : Int) := bo
     have hl_ : (ji59 : Int) ≤ (t514.length : Int) := bo
     have hh_ : ((ji56) : Int) ≤ (t514.length : Int) := bo
     have hb_ := (Kd.N_reads' HO516.out).2.2.2.1
     have h0_ : (0 : Int) ≤ (ji59 : Int) := bo
     have hy1_ := KY80.out
     have hk_ : (ji59 : Int).toNat = y526.length + 1 := (by have hw_ : (ji59 : Int) = (ji56) + 1 := (by have h00_ := h0_; rw [← hji59] at h00_ ⊢; unfold wrap64 at h00_ ⊢; omega); rw [hw_]; omega)
     refine Kd.V_capdel_step k30 (w0 := w) w.heap.size (by rfl) (.tmp 85) (.tmp 90) 22 30 (.agg #[(.slice none 0 0), (.int .i64 0), (.int .i64 0), (.int .i64 0), (.int .i64 0)]) 56 rfl Try.underlying22 info30 rfl (by decide) (by omega) (g := go83) (n := t514.length) (c := co73) (k := y526.length) rfl rfl (bNr HO516) ?hk ?hm ?hA ?hF bX bY ?hL ?_
     (case hF => exact (fun k_ hk_ => ⟨fun e_ => Nat.not_lt.2 hk_ (Kd.N_lt (bNr HO_510000) k_ e_.symm), Kd.freshB (bP BK483) k_ hk_, Kd.freshB (bP BK509) k_ hk_, Kd.freshB (bP BK525) k_ hk_⟩))
     (case hL => have := LM536; omega)
     (case hA => have ha_ := KA81.out; rw [hk_] at ha_; exact ha_)
     (case hm => have ha_ := KY81.out; omega)
     (case hk => omega)
     intro Av82 cv82 w82 ho hb hg hat
     clear hj_ hl_ hh_ hb_ hk_ h0_
     rw [hy1_, ← Ny536.out] at ho
     clear hy1_
     have hn_ : t514.length - 1 = y536.length := (by have := (Kd.V_reads' ho).1; omega)
     rw [hn_] at ho hat ⊢
     clear hn_
     replace HO_510000 := bA (Kd.N_afterv (v := (.slice (some ⟨go83, 0, none⟩) t514.length co73)) (v1 := .slice Av82 y536.length cv82) (ok := (fun k_ => k_ ≠ gb483 ∧ k_ ≠ gb509 ∧ k_ ≠ gb525)) (by (with_reducible repeat (first | apply Kd.N_alloc | apply Kd.N_drewN | apply Kd.N_drew)); exact Kd.N_mono HO_510000.out (fun _ hk => ⟨⟨hk.2.1, ⟨hk.2.2.1, hk.2.2.2⟩⟩, hk.1⟩)) hg hat)
     replace BK483 := bA (blk_grown (g := gb483) (o := .cells #[.slice A0_0 l0_0.length c0_0, .int .i64 a0_1, .int .i64 a0_2, .int .i64 a0_3, .int .i64 a0_4, .int .i64 a0_5, .int .i64 a0_6, .int .i64 a0_7, .int .i64 a0_8] 24 (0, 0)) (bP BK483) hg (Kd.N_ne HO516.out BK483.out (by decide)))
     replace BK509 := bA (blk_grown (g := gb509) (o := .cells #[.slice Ao69 x510000_3.length co69, .int .i64 t501, .int .i64 t502, .int .i64 t503, .int .i64 t504, .int .i64 t505, .int .i64 t506, .int .i64 t507, .int .i64 t508] 24 (0, 0)) (bP BK509) hg (Kd.N_ne HO516.out BK509.out (by decide)))
     replace BK525 := bA (blk_grown (g := gb525) (o := .cells #[.slice (some ⟨go83, 0, none⟩) t514.length co73, .int .i64 t517, .int .i64 t518, .int .i64 t519, .int .i64 t520, .int .i64 t521, .int .i64 t522, .int .i64 t523, .int .i64 t524] 24 (0, 0)) (bP BK525) hg (Kd.N_ne HO516.out BK525.out (by decide)))
     replace HO516 := bA (ho)
     replace HB := bA (hb)
     clear ho hb hg
     refine hK.out _ _ ⟨bq BK525 0, bq BK525 1, bq BK525 2, bq BK525 3, bq BK525 4, bq BK525 5, bq BK525 6, bq BK525 7, bq BK525 8⟩ (fun hHeld => ?_)
     clear hK K
     refine bI 91 ?_
     refine bU (i := 11) (N := some 92) ?_
     refine last_ (i := 12) (N := none) #[true,true,true,true,true,true,true,true,true,true,true,true,true] rfl rfl (one_of HT_.out (by kernel_rfl)) (by decide) (fun K hK => ?_)
     have hs84 : w82.cell? ⟨gb525, 0, none⟩ = some (.slice (some ⟨go83, 0, none⟩) t514.length co73) := bq BK525 0
     have hfs84 := blk_frozen BK525.out 0
     have hns84_0 := NB483_525.out
     have hns84_1 := NB509_525.out
     have hms84_0 := NB525_483.out
     have hms84_1 := NB525_509.out
     refine skip_ (w1 := ?_) (by rfl) rfl ?_ ?_
     rotate_left
     ·go_simp
      rfl
     refine hK.out _ _ ?_
     clear hK K
     refine done_ (done_of HT_.out (by kernel_rfl)) ?_
     obtain ⟨hcz85_0, hcz85_1, hcz85_2, hcz85_3, hcz85_4, hcz85_5, hcz85_6, hcz85_7, hcz85_8, hfz85_0, hfz85_1, hfz85_2, hfz85_3, hfz85_4, hfz85_5, hfz85_6, hfz85_7, hfz85_8⟩ := bc9 BK525
     obtain ⟨hcz86_0, hcz86_1, hcz86_2, hcz86_3, hcz86_4, hcz86_5, hcz86_6, hcz86_7, hcz86_8, hfz86_0, hfz86_1, hfz86_2, hfz86_3, hfz86_4, hfz86_5, hfz86_6, hfz86_7, hfz86_8⟩ := bc9 BK509
     try go_wp2_with (first | ((first | ((with_reducible refine gate_callee (f := 18) rfl ?_); refine bC (some 105) Try.func18 #[.agg #[.slice Ao69 x510000_3.length co69, .int .i64 t501, .int .i64 t502, .int .i64 t503, .int .i64 t504, .int .i64 t505, .int .i64 t506, .int .i64 t507, .int .i64 t508]] ?_) | go_at_call 18); (with_reducible refine (rules_Wrong.calls k3 _ _ x510000_3 t501 t502 t503 t504 t505 t506 t507 t508 t539 _ ?side1 ?side2 A64.out).mono ?_); (case side1 => refine (Kd.N_reads' (e := 30) (base := w.heap.size) (ok := fun k_ => ((k_ ≠ gb483 ∧ (k_ ≠ gb509 ∧ k_ ≠ gb525)) ∧ some k_ ≠ (.slice Av82 y536.length cv82 : Value).ownBlock)) (n := x510000_3.length) (c := co69) ?_).2.2; exact (by (with_reducible repeat (first | apply Kd.N_alloc | apply Kd.N_drewN | apply Kd.N_drew)); exact (Kd.N_mono (Kd.N_far (p := ⟨gb525, 8, none⟩) (Kd.N_far (p := ⟨gb525, 0, none⟩) (Kd.N_mono HO_510000.out (fun k_ hk => (⟨hk, hk.1.2.2⟩ : _ ∧ k_ ≠ gb525))) (fun _ hk => hk.2) (.slice Av82 y536.length cv82)) (fun _ hk => hk.2) (.int .i64 ji62)) (fun _ h_ => h_.1)))); (case side2 => exact (Kd.N_reads' HO_510000.out).2.1); rintro e w87 ⟨rfl, hb⟩; (first | refine ⟨_, rfl, ?_⟩ | skip); replace HO_510000 := bA (Kd.N_below (by (with_reducible repeat (first | apply Kd.N_alloc | apply Kd.N_drewN | apply Kd.N_drew)); exact (Kd.N_mono (Kd.N_far (p := ⟨gb525, 8, none⟩) (Kd.N_far (p := ⟨gb525, 0, none⟩) (Kd.N_mono HO_510000.out (fun k_ hk => (⟨hk, hk.1.2.2⟩ : _ ∧ k_ ≠ gb525))) (fun _ hk => hk.2) (.slice Av82 y536.length cv82)) (fun _ hk => hk.2) (.int .i64 ji62)) (fun _ h_ => h_.1))) hb); replace HO516 := bA (Kd.V_below (by (with_reducible repeat (first | apply Kd.V_alloc | apply Kd.V_drewN | apply Kd.V_drew)); exact (Kd.V_mono (Kd.V_far_ (p := ⟨gb525, 8, none⟩) (Kd.V_far_ (p := ⟨gb525, 0, none⟩) (Kd.V_mono HO516.out (fun k_ hk => (⟨hk, hk.2.2.2⟩ : _ ∧ k_ ≠ gb525))) (fun _ hk => hk.2) (.slice Av82 y536.length cv82)) (fun _ hk => hk.2) (.int .i64 ji62)) (fun _ h_ => h_.1))) hb); replace BK483 := bA (blk_below (g := gb483) (o := .cells #[.slice A0_0 l0_0.length c0_0, .int .i64 a0_1, .int .i64 a0_2, .int .i64 a0_3, .int .i64 a0_4, .int .i64 a0_5, .int .i64 a0_6, .int .i64 a0_7, .int .i64 a0_8] 24 (0, 0)) (by (repeat ((with_reducible repeat (first | refine blk_drewN ?_ _ | refine blk_drew ?_ | refine blk_alloc ?_ _)); refine blk_far ?_ NB483_525.out _)); (with_reducible repeat (first | refine blk_drewN ?_ _ | refine blk_drew ?_ | refine blk_alloc ?_ _)); exact BK483.out) hb); replace BK509 := bA (blk_below (g := gb509) (o := .cells #[.slice Ao69 x510000_3.length co69, .int .i64 t501, .int .i64 t502, .int .i64 t503, .int .i64 t504, .int .i64 t505, .int .i64 t506, .int .i64 t507, .int .i64 t508] 24 (0, 0)) (by (repeat ((with_reducible repeat (first | refine blk_drewN ?_ _ | refine blk_drew ?_ | refine blk_alloc ?_ _)); refine blk_far ?_ NB509_525.out _)); (with_reducible repeat (first | refine blk_drewN ?_ _ | refine blk_drew ?_ | refine blk_alloc ?_ _)); exact BK509.out) hb); replace BK525 := bA (blk_below (g := gb525) (o := .cells #[.slice Av82 y536.length cv82, .int .i64 t517, .int .i64 t518, .int .i64 t519, .int .i64 t520, .int .i64 t521, .int .i64 t522, .int .i64 t523, .int .i64 ji62] 24 (0, 0)) (by (with_reducible repeat (first | refine blk_drewN ?_ _ | refine blk_drew ?_ | refine blk_alloc ?_ _)); refine blk_put (cs := #[.slice Av82 y536.length cv82, .int .i64 t517, .int .i64 t518, .int .i64 t519, .int .i64 t520, .int .i64 t521, .int .i64 t522, .int .i64 t523, .int .i64 t524]) ?_ 8 _ rfl; (with_reducible repeat (first | refine blk_drewN ?_ _ | refine blk_drew ?_ | refine blk_alloc ?_ _)); refine blk_put (cs := #[.slice (some ⟨go83, 0, none⟩) t514.length co73, .int .i64 t517, .int .i64 t518, .int .i64 t519, .int .i64 t520, .int .i64 t521, .int .i64 t522, .int .i64 t523, .int .i64 t524]) ?_ 0 _ rfl; (with_reducible repeat (first | refine blk_drewN ?_ _ | refine blk_drew ?_ | refine blk_alloc ?_ _)); exact BK525.out) hb); replace HB := bA (bS hb); (try clear hb); obtain ⟨hcz88_0, hcz88_1, hcz88_2, hcz88_3, hcz88_4, hcz88_5, hcz88_6, hcz88_7, hcz88_8, hfz88_0, hfz88_1, hfz88_2, hfz88_3, hfz88_4, hfz88_5, hfz88_6, hfz88_7, hfz88_8⟩ := bc9 BK525) | (go_at_call 18; (with_reducible refine (rules_Wrong.calls k3 _ _ y536 t517 t518 t519 t520 t521 t522 t523 ji62 t540 _ ?side1 ?side2 A66.out).mono ?_); (case side1 => repeat (first | exact (Kd.V_reads' HO516.out).2.2 | (with_reducible refine Kd.C_alloc ?_ _) | (with_reducible refine Kd.C_drewN ?_ _) | (with_reducible refine Kd.C_drew ?_))); (case side2 => exact (Kd.V_reads' HO516.out).2.1); rintro e w89 ⟨rfl, hb⟩; replace HO_510000 := bA (Kd.N_below (bNr HO_510000) hb); replace HO516 := bA (Kd.V_below (by (with_reducible repeat (first | apply Kd.V_alloc | apply Kd.V_drewN | apply Kd.V_drew)); exact HO516.out) hb); replace BK483 := bA (bB BK483 hb); replace BK509 := bA (bB BK509 hb); replace BK525 := bA (bB BK525 hb); replace HB := bA (bS hb); (try clear hb)))
     go_ret
     exact ⟨by first | rfl | (simp [errW_none, errW_some] <;> rfl) | (simp only [← hji56, ← hji59, ← hji62]; first | rfl | (simp [errW_none, errW_some] <;> rfl)) | (simp [*, errW_none, errW_some] <;> rfl), by repeat (first | (with_reducible first | exact HB.out | apply below_alloc | apply pw_below_drewN | apply below_drew1 | refine below_set ?_ GE483.out | refine below_set ?_ GE509.out | refine below_set ?_ GE525.out) | exact HB.out)⟩
    rw [if_neg c63] at H
    have c63b0 : ((y536.length : Int) == 0) = false := beq_eq_false_iff_ne.mpr c63
    have c63b1 : ((y536.length : Int) != 0) = true := bne_iff_ne.mpr c63
    have c63b2 : ¬ (y536 = []) := fun h_ => c63 (by rw [h_]; rfl)
    replace H := Option.bind_eq_some_iff.mp H
    obtain ⟨t541, A900, H⟩ := H
    have A90 := bA A900
    clear A900
    by_cases c91 : t541 = 1
    rotate_left
    ·rw [if_neg c91] at H
     exact absurd H (by simp)
    rw [if_pos c91] at H
    have c91b0 : (t541 == 1) = true := beq_iff_eq.mpr c91
    have c91b1 : (t541 != 1) = false := bne_eq_false_iff_eq.mpr c91
    clear c91
    replace H := Option.bind_eq_some_iff.mp H
    obtain ⟨t542, A920, H⟩ := H
    have A92 := bA A920
    clear A920
    obtain rfl := Option.some.inj H
    have hnb93 := NB509_483.out
    have hnc93 := NB483_509.out
    obtain ⟨hcz94_0, hcz94_1, hcz94_2, hcz94_3, hcz94_4, hcz94_5, hcz94_6, hcz94_7, hcz94_8, hfz94_0, hfz94_1, hfz94_2, hfz94_3, hfz94_4, hfz94_5, hfz94_6, hfz94_7, hfz94_8⟩ := bc9 BK509
    obtain ⟨Ao95, co95, eo95⟩ := Kd.N_slice HO_510000.out
    subst eo95
    obtain ⟨hcz96_0, hcz96_1, hcz96_2, hcz96_3, hcz96_4, hcz96_5, hcz96_6, hcz96_7, hcz96_8, hfz96_0, hfz96_1, hfz96_2, hfz96_3, hfz96_4, hfz96_5, hfz96_6, hfz96_7, hfz96_8⟩ := bc9 BK483
    try go_wp2_with (first | ((first | ((with_reducible refine gate_callee (f := 24) rfl ?_); refine bC (some 65) Try.func24 #[.agg #[.slice A0_0 l0_0.length c0_0, .int .i64 a0_1, .int .i64 a0_2, .int .i64 a0_3, .int .i64 a0_4, .int .i64 a0_5, .int .i64 a0_6, .int .i64 a0_7, .int .i64 a0_8]] ?_) | go_at_call 24); (with_reducible refine (rules_Copy.calls k3 (fun k_ => k_ < w.heap.size) _ _ l0_0 a0_1 a0_2 a0_3 a0_4 a0_5 a0_6 a0_7 a0_8 t514 t517 t518 t519 t520 t521 t522 t523 t524 _ ?side1 A53.out).mono ?_); (case side1 => exact Kd.V_mk HC0_0.out (Kd.F_below (Kd.C_F k30_heap HR0_0.out) bX)); rintro e w97 ⟨v515, rfl, ho0, hb⟩; (first | refine ⟨_, rfl, ?_⟩ | skip); have HO516 := bA (Kd.N_lower (Kd.N_mono (ok' := fun k_ => some k_ ≠ (.slice Ao95 x510000_3.length co95 : Value).ownBlock ∧ k_ ≠ gb483 ∧ k_ ≠ gb509) ho0 (fun k_ hk_ => ⟨Or.elim hk_ (fun hs_ => fun e_ => Nat.not_le.2 hs_ (Kd.N_base HO_510000.out k_ e_.symm)) (fun hn_ => (Kd.fresh' (Kd.N_lt (bNr HO_510000)) k_ hn_)), Or.elim hk_ (fun hs_ => fun e_ => Nat.not_le.2 hs_ (by rw [e_]; exact GW483.out)) (fun hn_ => (Kd.freshB (g := gb483) (o := .cells #[.slice A0_0 l0_0.length c0_0, .int .i64 a0_1, .int .i64 a0_2, .int .i64 a0_3, .int .i64 a0_4, .int .i64 a0_5, .int .i64 a0_6, .int .i64 a0_7, .int .i64 a0_8] 24 (0, 0)) (bP BK483) k_ hn_)), Or.elim hk_ (fun hs_ => fun e_ => Nat.not_le.2 hs_ (by rw [e_]; exact GW509.out)) (fun hn_ => (Kd.freshB (g := gb509) (o := .cells #[.slice Ao95 x510000_3.length co95, .int .i64 t501, .int .i64 t502, .int .i64 t503, .int .i64 t504, .int .i64 t505, .int .i64 t506, .int .i64 t507, .int .i64 t508] 24 (0, 0)) (bP BK509) k_ hn_))⟩)) bY); replace HO_510000 := bA (Kd.N_elder' (bNr HO_510000) (Kd.N_base ho0) hb); replace BK483 := bA (bB BK483 hb); replace BK509 := bA (bB BK509 hb); replace HB := bA (bS hb); (try clear hb); (try clear ho0)) | ((with_reducible refine gate_dst (N := 9) rfl ?_); refine bE (N := 9) (cs := #[.slice none 0 0, .int .i64 0, .int .i64 0, .int .i64 0, .int .i64 0, .int .i64 0, .int .i64 0, .int .i64 0, .int .i64 0]) (t := 24) ?_; intro gb525 hg w98 hbox hb; have BK525 := bA (hbox); have GW525 := bA (bZ hg); have GE525 := bA (bZ hg); have NB483_525 := bA (bL BK483 hg); have NB525_483 := bA (bG BK483 hg); have NB509_525 := bA (bL BK509 hg); have NB525_509 := bA (bG BK509 hg); replace HO_510000 := bA (Kd.N_below (Kd.N_elderB (bNr HO_510000) gb525 (Nat.le_of_eq hg.symm)) hb); replace HO516 := bA (Kd.N_below (Kd.N_elderB (bNr HO516) gb525 (Nat.le_of_eq hg.symm)) hb); replace BK483 := bA (bB BK483 hb); replace BK509 := bA (bB BK509 hb); replace HB := bA (bS hb); clear hb hbox hg; obtain ⟨Ao99, co99, eo99⟩ := Kd.N_slice HO516.out; subst eo99; have hnb100 := NB525_483.out; have hnc100 := NB483_525.out; have hnb101 := NB525_509.out; have hnc101 := NB509_525.out; obtain ⟨hcz102_0, hcz102_1, hcz102_2, hcz102_3, hcz102_4, hcz102_5, hcz102_6, hcz102_7, hcz102_8, hfz102_0, hfz102_1, hfz102_2, hfz102_3, hfz102_4, hfz102_5, hfz102_6, hfz102_7, hfz102_8⟩ := bc9 BK525; obtain ⟨hcz103_0, hcz103_1, hcz103_2, hcz103_3, hcz103_4, hcz103_5, hcz103_6, hcz103_7, hcz103_8, hfz103_0, hfz103_1, hfz103_2, hfz103_3, hfz103_4, hfz103_5, hfz103_6, hfz103_7, hfz103_8⟩ := bc9 BK483))
    have n0_ : Aside0 (Kd.N k30 30 (((((((((w98.setCell ⟨gb525, 0, none⟩ (.slice Ao99 t514.length co99)).setCell ⟨gb525, 1, none⟩ (.int .i64 t517)).setCell ⟨gb525, 2, none⟩ (.int .i64 t518)).setCell ⟨gb525, 3, none⟩ (.int .i64 t519)).setCell ⟨gb525, 4, none⟩ (.int .i64 t520)).setCell ⟨gb525, 5, none⟩ (.int .i64 t521)).setCell ⟨gb525, 6, none⟩ (.int .i64 t522)).setCell ⟨gb525, 7, none⟩ (.int .i64 t523)).setCell ⟨gb525, 8, none⟩ (.int .i64 t524)) w.heap.size (fun k_ => some k_ ≠ (.slice Ao99 t514.length co99 : Value).ownBlock ∧ k_ ≠ gb483 ∧ k_ ≠ gb509 ∧ k_ ≠ gb525) (.slice Ao95 x510000_3.length co95) x510000_3) := ⟨by (with_reducible repeat (first | apply Kd.N_alloc | apply Kd.N_drewN | apply Kd.N_drew)); exact Kd.N_mono (Kd.N_far (p := ⟨gb525, 8, none⟩) (Kd.N_far (p := ⟨gb525, 7, none⟩) (Kd.N_far (p := ⟨gb525, 6, none⟩) (Kd.N_far (p := ⟨gb525, 5, none⟩) (Kd.N_far (p := ⟨gb525, 4, none⟩) (Kd.N_far (p := ⟨gb525, 3, none⟩) (Kd.N_far (p := ⟨gb525, 2, none⟩) (Kd.N_far (p := ⟨gb525, 1, none⟩) (Kd.N_far (p := ⟨gb525, 0, none⟩) (Kd.N_mono HO_510000.out (fun k_ hk => (⟨hk, hk.2⟩ : _ ∧ k_ ≠ gb525))) (fun _ hk => hk.2) (.slice Ao99 t514.length co99)) (fun _ hk => hk.2) (.int .i64 t517)) (fun _ hk => hk.2) (.int .i64 t518)) (fun _ hk => hk.2) (.int .i64 t519)) (fun _ hk => hk.2) (.int .i64 t520)) (fun _ hk => hk.2) (.int .i64 t521)) (fun _ hk => hk.2) (.int .i64 t522)) (fun _ hk => hk.2) (.int .i64 t523)) (fun _ hk => hk.2) (.int .i64 t524)) (fun _ hk => ⟨hk.1.1.2, ⟨hk.1.1.1.1, ⟨hk.1.1.1.2, hk.1.2⟩⟩⟩)⟩
    have n1_ : Aside0 (Kd.N k30 30 (((((((((w98.setCell ⟨gb525, 0, none⟩ (.slice Ao99 t514.length co99)).setCell ⟨gb525, 1, none⟩ (.int .i64 t517)).setCell ⟨gb525, 2, none⟩ (.int .i64 t518)).setCell ⟨gb525, 3, none⟩ (.int .i64 t519)).setCell ⟨gb525, 4, none⟩ (.int .i64 t520)).setCell ⟨gb525, 5, none⟩ (.int .i64 t521)).setCell ⟨gb525, 6, none⟩ (.int .i64 t522)).setCell ⟨gb525, 7, none⟩ (.int .i64 t523)).setCell ⟨gb525, 8, none⟩ (.int .i64 t524)) w.heap.size (fun k_ => some k_ ≠ (.slice Ao95 x510000_3.length co95 : Value).ownBlock ∧ k_ ≠ gb483 ∧ k_ ≠ gb509 ∧ k_ ≠ gb525) (.slice Ao99 t514.length co99) t514) := ⟨by (with_reducible repeat (first | apply Kd.N_alloc | apply Kd.N_drewN | apply Kd.N_drew)); exact Kd.N_mono (Kd.N_far (p := ⟨gb525, 8, none⟩) (Kd.N_far (p := ⟨gb525, 7, none⟩) (Kd.N_far (p := ⟨gb525, 6, none⟩) (Kd.N_far (p := ⟨gb525, 5, none⟩) (Kd.N_far (p := ⟨gb525, 4, none⟩) (Kd.N_far (p := ⟨gb525, 3, none⟩) (Kd.N_far (p := ⟨gb525, 2, none⟩) (Kd.N_far (p := ⟨gb525, 1, none⟩) (Kd.N_far (p := ⟨gb525, 0, none⟩) (Kd.N_mono HO516.out (fun k_ hk => (⟨hk, hk.2⟩ : _ ∧ k_ ≠ gb525))) (fun _ hk => hk.2) (.slice Ao99 t514.length co99)) (fun _ hk => hk.2) (.int .i64 t517)) (fun _ hk => hk.2) (.int .i64 t518)) (fun _ hk => hk.2) (.int .i64 t519)) (fun _ hk => hk.2) (.int .i64 t520)) (fun _ hk => hk.2) (.int .i64 t521)) (fun _ hk => hk.2) (.int .i64 t522)) (fun _ hk => hk.2) (.int .i64 t523)) (fun _ hk => hk.2) (.int .i64 t524)) (fun _ hk => ⟨hk.1.1.1, ⟨hk.1.1.2.1, ⟨hk.1.1.2.2, hk.1.2⟩⟩⟩)⟩
    have n2_ : Aside0 ((((((((((w98.setCell ⟨gb525, 0, none⟩ (.slice Ao99 t514.length co99)).setCell ⟨gb525, 1, none⟩ (.int .i64 t517)).setCell ⟨gb525, 2, none⟩ (.int .i64 t518)).setCell ⟨gb525, 3, none⟩ (.int .i64 t519)).setCell ⟨gb525, 4, none⟩ (.int .i64 t520)).setCell ⟨gb525, 5, none⟩ (.int .i64 t521)).setCell ⟨gb525, 6, none⟩ (.int .i64 t522)).setCell ⟨gb525, 7, none⟩ (.int .i64 t523)).setCell ⟨gb525, 8, none⟩ (.int .i64 t524)).heap[gb483]? = some (.cells #[.slice A0_0 l0_0.length c0_0, .int .i64 a0_1, .int .i64 a0_2, .int .i64 a0_3, .int .i64 a0_4, .int .i64 a0_5, .int .i64 a0_6, .int .i64 a0_7, .int .i64 a0_8] 24 (0, 0))) := ⟨by (repeat ((with_reducible repeat (first | refine blk_drewN ?_ _ | refine blk_drew ?_ | refine blk_alloc ?_ _)); refine blk_far ?_ NB483_525.out _)); (with_reducible repeat (first | refine blk_drewN ?_ _ | refine blk_drew ?_ | refine blk_alloc ?_ _)); exact BK483.out⟩
    have n3_ : Aside0 ((((((((((w98.setCell ⟨gb525, 0, none⟩ (.slice Ao99 t514.length co99)).setCell ⟨gb525, 1, none⟩ (.int .i64 t517)).setCell ⟨gb525, 2, none⟩ (.int .i64 t518)).setCell ⟨gb525, 3, none⟩ (.int .i64 t519)).setCell ⟨gb525, 4, none⟩ (.int .i64 t520)).setCell ⟨gb525, 5, none⟩ (.int .i64 t521)).setCell ⟨gb525, 6, none⟩ (.int .i64 t522)).setCell ⟨gb525, 7, none⟩ (.int .i64 t523)).setCell ⟨gb525, 8, none⟩ (.int .i64 t524)).heap[gb509]? = some (.cells #[.slice Ao95 x510000_3.length co95, .int .i64 t501, .int .i64 t502, .int .i64 t503, .int .i64 t504, .int .i64 t505, .int .i64 t506, .int .i64 t507, .int .i64 t508] 24 (0, 0))) := ⟨by (repeat ((with_reducible repeat (first | refine blk_drewN ?_ _ | refine blk_drew ?_ | refine blk_alloc ?_ _)); refine blk_far ?_ NB509_525.out _)); (with_reducible repeat (first | refine blk_drewN ?_ _ | refine blk_drew ?_ | refine blk_alloc ?_ _)); exact BK509.out⟩
    have n4_ : Aside0 ((((((((((w98.setCell ⟨gb525, 0, none⟩ (.slice Ao99 t514.length co99)).setCell ⟨gb525, 1, none⟩ (.int .i64 t517)).setCell ⟨gb525, 2, none⟩ (.int .i64 t518)).setCell ⟨gb525, 3, none⟩ (.int .i64 t519)).setCell ⟨gb525, 4, none⟩ (.int .i64 t520)).setCell ⟨gb525, 5, none⟩ (.int .i64 t521)).setCell ⟨gb525, 6, none⟩ (.int .i64 t522)).setCell ⟨gb525, 7, none⟩ (.int .i64 t523)).setCell ⟨gb525, 8, none⟩ (.int .i64 t524)).heap[gb525]? = some (.cells #[.slice Ao99 t514.length co99, .int .i64 t517, .int .i64 t518, .int .i64 t519, .int .i64 t520, .int .i64 t521, .int .i64 t522, .int .i64 t523, .int .i64 t524] 24 (0, 0))) := ⟨by (with_reducible repeat (first | refine blk_drewN ?_ _ | refine blk_drew ?_ | refine blk_alloc ?_ _)); refine blk_put (cs := #[.slice Ao99 t514.length co99, .int .i64 t517, .int .i64 t518, .int .i64 t519, .int .i64 t520, .int .i64 t521, .int .i64 t522, .int .i64 t523, .int .i64 0]) ?_ 8 _ rfl; (with_reducible repeat (first | refine blk_drewN ?_ _ | refine blk_drew ?_ | refine blk_alloc ?_ _)); refine blk_put (cs := #[.slice Ao99 t514.length co99, .int .i64 t517, .int .i64 t518, .int .i64 t519, .int .i64 t520, .int .i64 t521, .int .i64 t522, .int .i64 0, .int .i64 0]) ?_ 7 _ rfl; (with_reducible repeat (first | refine blk_drewN ?_ _ | refine blk_drew ?_ | refine blk_alloc ?_ _)); refine blk_put (cs := #[.slice Ao99 t514.length co99, .int .i64 t517, .int .i64 t518, .int .i64 t519, .int .i64 t520, .int .i64 t521, .int .i64 0, .int .i64 0, .int .i64 0]) ?_ 6 _ rfl; (with_reducible repeat (first | refine blk_drewN ?_ _ | refine blk_drew ?_ | refine blk_alloc ?_ _)); refine blk_put (cs := #[.slice Ao99 t514.length co99, .int .i64 t517, .int .i64 t518, .int .i64 t519, .int .i64 t520, .int .i64 0, .int .i64 0, .int .i64 0, .int .i64 0]) ?_ 5 _ rfl; (with_reducible repeat (first | refine blk_drewN ?_ _ | refine blk_drew ?_ | refine blk_alloc ?_ _)); refine blk_put (cs := #[.slice Ao99 t514.length co99, .int .i64 t517, .int .i64 t518, .int .i64 t519, .int .i64 0, .int .i64 0, .int .i64 0, .int .i64 0, .int .i64 0]) ?_ 4 _ rfl; (with_reducible repeat (first | refine blk_drewN ?_ _ | refine blk_drew ?_ | refine blk_alloc ?_ _)); refine blk_put (cs := #[.slice Ao99 t514.length co99, .int .i64 t517, .int .i64 t518, .int .i64 0, .int .i64 0, .int .i64 0, .int .i64 0, .int .i64 0, .int .i64 0]) ?_ 3 _ rfl; (with_reducible repeat (first | refine blk_drewN ?_ _ | refine blk_drew ?_ | refine blk_alloc ?_ _)); refine blk_put (cs := #[.slice Ao99 t514.length co99, .int .i64 t517, .int .i64 0, .int .i64 0, .int .i64 0, .int .i64 0, .int .i64 0, .int .i64 0, .int .i64 0]) ?_ 2 _ rfl; (with_reducible repeat (first | refine blk_drewN ?_ _ | refine blk_drew ?_ | refine blk_alloc ?_ _)); refine blk_put (cs := #[.slice Ao99 t514.length co99, .int .i64 0, .int .i64 0, .int .i64 0, .int .i64 0, .int .i64 0, .int .i64 0, .int .i64 0, .int .i64 0]) ?_ 1 _ rfl; (with_reducible repeat (first | refine blk_drewN ?_ _ | refine blk_drew ?_ | refine blk_alloc ?_ _)); refine blk_put (cs := #[.slice none 0 0, .int .i64 0, .int .i64 0, .int .i64 0, .int .i64 0, .int .i64 0, .int .i64 0, .int .i64 0, .int .i64 0]) ?_ 0 _ rfl; (with_reducible repeat (first | refine blk_drewN ?_ _ | refine blk_drew ?_ | refine blk_alloc ?_ _)); exact BK525.out⟩
    have n5_ : Aside0 (Below w.heap.size w (((((((((w98.setCell ⟨gb525, 0, none⟩ (.slice Ao99 t514.length co99)).setCell ⟨gb525, 1, none⟩ (.int .i64 t517)).setCell ⟨gb525, 2, none⟩ (.int .i64 t518)).setCell ⟨gb525, 3, none⟩ (.int .i64 t519)).setCell ⟨gb525, 4, none⟩ (.int .i64 t520)).setCell ⟨gb525, 5, none⟩ (.int .i64 t521)).setCell ⟨gb525, 6, none⟩ (.int .i64 t522)).setCell ⟨gb525, 7, none⟩ (.int .i64 t523)).setCell ⟨gb525, 8, none⟩ (.int .i64 t524))) := ⟨bX⟩
    (try clear HO_510000)
    (try clear HO516)
    (try clear BK483)
    (try clear BK509)
    (try clear BK525)
    (try clear HB)
    generalize (((((((((w98.setCell ⟨gb525, 0, none⟩ (.slice Ao99 t514.length co99)).setCell ⟨gb525, 1, none⟩ (.int .i64 t517)).setCell ⟨gb525, 2, none⟩ (.int .i64 t518)).setCell ⟨gb525, 3, none⟩ (.int .i64 t519)).setCell ⟨gb525, 4, none⟩ (.int .i64 t520)).setCell ⟨gb525, 5, none⟩ (.int .i64 t521)).setCell ⟨gb525, 6, none⟩ (.int .i64 t522)).setCell ⟨gb525, 7, none⟩ (.int .i64 t523)).setCell ⟨gb525, 8, none⟩ (.int .i64 t524)) = w104 at n0_ n1_ n2_ n3_ n4_ n5_ ⊢
    have HO_510000 := n0_
    have HO516 := n1_
    have BK483 := n2_
    have BK509 := n3_
    have BK525 := n4_
    have HB := n5_
    clear n0_ n1_ n2_ n3_ n4_ n5_
    replace HO_510000 := bA (Kd.N_drew HO_510000.out)
    replace HO516 := bA (Kd.N_drew HO516.out)
    replace BK483 := bA (blk_drew BK483.out)
    replace BK509 := bA (blk_drew BK509.out)
    replace BK525 := bA (blk_drew BK525.out)
    replace HB := bA (below_drew1 HB.out)
    have q106 : ((ji56) : Int) ≤ ((t514.length : Int) : Int) := bo
    obtain ⟨i0106, hi0106, _, hsz106, _⟩ := info_parts info30
    have hroom106 : t514.length ≤ co99 := (Kd.N_reads' HO516.out).2.1
    have hC106 : Kd.F k30 _ _ Ao99 t514.length t514 := (Kd.V_at (base := w.heap.size) (Kd.N_V HO516.out)).2.2
    have hcut106 := cut_cap (P := Try.prog) 22 30 .i64 .i64 Try.underlying22 hi0106 Ao99 t514.length co99 (ji56) (bo) q106 hroom106
    have hr106 := Kd.F_take (m := ((ji56) : Int).toNat) hC106 (by omega)
    have hy106 : y526.length = ((ji56) : Int).toNat := (by rw [Ny526.out, List.length_take]; omega)
    rw [← Ny526.out] at hr106
    rw [← hy106] at hcut106
    have HO530 := bA (show Kd.V k30 30 _ w.heap.size _ (.slice Ao99 y526.length y526.length) y526 from Kd.V_mk (by omega) hr106)
    have HC530 := bA (show y526.length ≤ y526.length from by omega)
    clear hr106 hC106 hroom106 hi0106 hsz106
    have KY106 := bA hy106
    clear hy106
    replace q106 := eq_true q106
    have q107 : ((ji59) : Int) ≤ ((t514.length : Int) : Int) := bo
    obtain ⟨i0107, hi0107, _, hsz107, _⟩ := info_parts info30
    have hroom107 : t514.length ≤ co99 := (Kd.N_reads' HO516.out).2.1
    have hC107 : Kd.F k30 _ _ Ao99 t514.length t514 := (Kd.V_at (base := w.heap.size) (Kd.N_V HO516.out)).2.2
    have q0107 : (0 : Int) ≤ ((ji59) : Int) := bo
    have hcut107 := cut_from (P := Try.prog) 22 30 .i64 Try.underlying22 hi0107 5 hsz107 Ao99 t514.length co99 (ji59) q0107 q107
    have hr107 := Kd.F_cut (m := ((ji59) : Int).toNat) (c := co99) hC107 (by omega) hroom107
    obtain ⟨A107, hA107⟩ : ∃ A1, A1 = (if co99 = ((ji59) : Int).toNat then Ao99 else (Ao99 : Option Addr).map (·.add (((ji59) : Int).toNat * 5))) := ⟨_, rfl⟩
    obtain ⟨c107, hc107⟩ : ∃ c1, c1 = co99 - ((ji59) : Int).toNat := ⟨_, rfl⟩
    have hy107 : y531.length = t514.length - ((ji59) : Int).toNat := (by rw [Ny531.out, List.length_drop] <;> omega)
    rw [show (t514).drop ((ji59) : Int).toNat = y531 from Ny531.out.symm] at hr107
    replace hr107 : Kd.F k30 _ _ A107 y531.length y531 := (by rw [hA107]; exact hr107)
    rw [← hy107, ← hA107, ← hc107] at hcut107
    have HO535 := bA (show Kd.V k30 30 _ w.heap.size _ (.slice A107 y531.length c107) y531 from Kd.V_mk (by rw [hy107, hc107]; exact Nat.sub_le_sub_right hroom107 _) hr107)
    have HC535 := bA (show y531.length ≤ c107 from by rw [hy107, hc107]; exact Nat.sub_le_sub_right hroom107 _)
    clear hr107 hC107 hroom107 hi0107 hsz107 hc107
    have KY107 := bA hy107
    have KA107 := bA hA107
    clear hy107 hA107
    replace q107 := eq_true q107
    obtain ⟨go109, co109, eo109, gb109, gl109, cl109, HG109⟩ := Kd.N_form HO516.out (by have hj_ : 0 ≤ ((ji56) : Int) := bo; have hl_ : (ji59 : Int) ≤ (t514.length : Int) := bo; have hh_ : ((ji56) : Int) ≤ (t514.length : Int) := bo; rw [← hji59] at hl_; unfold wrap64 at hl_; omega)
    (first | cases eo109 | (injection eo109 with ea_ en_ ec_; (first | subst ea_ | (injection ea_ with ea_; subst ea_)); subst ec_; clear en_))
    have GB109 := bA gb109
    have GG109 := bA HG109
    clear gb109 gl109 HG109
    refine start_ (n := 13) (S := fun w' => w'.cell? ⟨gb525, 0, none⟩ = some (.slice (some ⟨go109, 0, none⟩) t514.length co99) ∧ w'.cell? ⟨gb525, 1, none⟩ = some (.int .i64 t517) ∧ w'.cell? ⟨gb525, 2, none⟩ = some (.int .i64 t518) ∧ w'.cell? ⟨gb525, 3, none⟩ = some (.int .i64 t519) ∧ w'.cell? ⟨gb525, 4, none⟩ = some (.int .i64 t520) ∧ w'.cell? ⟨gb525, 5, none⟩ = some (.int .i64 t521) ∧ w'.cell? ⟨gb525, 6, none⟩ = some (.int .i64 t522) ∧ w'.cell? ⟨gb525, 7, none⟩ = some (.int .i64 t523) ∧ w'.cell? ⟨gb525, 8, none⟩ = some (.int .i64 t524)) (ds := [12]) #[false,false,false,false,false,false,false,false,false,false,false,false,false] (by kernel_rfl) rfl rfl ⟨bq BK525 0, bq BK525 1, bq BK525 2, bq BK525 3, bq BK525 4, bq BK525 5, bq BK525 6, bq BK525 7, bq BK525 8⟩ (fun hHeld => ?_); refine with_tabW apogeelaw13_RulesPhases.tab19 apogeelaw13_RulesPhases.bits19 (fun HT_ HW_ => ?_)
    generalize w104.drew = w105 at HO_510000 HO516 BK483 BK509 BK525 HB GG109 HO530 HO535 hHeld ⊢
    refine bU (i := 0) (N := some 81) ?_
    refine bU (i := 2) (N := some 83) ?_
    refine bU (i := 3) (N := some 84) ?_
    refine bU (i := 5) (N := some 86) ?_
    refine bU (i := 7) (N := some 88) ?_
    refine bU (i := 8) (N := some 89) ?_
    refine bW (i := 1) (N := some 82) hHeld ?_
    refine bU (i := 4) (N := some 85) ?_
    refine bW (i := 6) (N := some 87) hHeld ?_
    refine bU (i := 9) (N := some 90) ?_
    refine one_ (i := 10) (N := some 91) #[true,true,true,true,true,true,true,true,true,true,true,false,false] rfl rfl (one_of HT_.out (by kernel_rfl)) (by decide) (fun K hK => ?_)
    have hj_ : 0 ≤ ((ji56) : Int) := bo
    have hl_ : (ji59 : Int) ≤ (t514.length : Int) := bo
    have hh_ : ((ji56) : Int) ≤ (t514.length : Int) := bo
    have hb_ := (Kd.N_reads' HO516.out).2.2.2.1
    have h0_ : (0 : Int) ≤ (ji59 : Int) := bo
    have hy1_ := KY106.out
    have hk_ : (ji59 : Int).toNat = y526.length + 1 := (by have hw_ : (ji59 : Int) = (ji56) + 1 := (by have h00_ := h0_; rw [← hji59] at h00_ ⊢; unfold wrap64 at h00_ ⊢; omega); rw [hw_]; omega)
    refine Kd.V_capdel_step k30 (w0 := w) w.heap.size (by rfl) (.tmp 85) (.tmp 90) 22 30 (.agg #[(.slice none 0 0), (.int .i64 0), (.int .i64 0), (.int .i64 0), (.int .i64 0)]) 56 rfl Try.underlying22 info30 rfl (by decide) (by omega) (g := go109) (n := t514.length) (c := co99) (k := y526.length) rfl rfl (bNr HO516) ?hk ?hm ?hA ?hF bX bY ?hL ?_
    (case hF => exact (fun k_ hk_ => ⟨fun e_ => Nat.not_lt.2 hk_ (Kd.N_lt (bNr HO_510000) k_ e_.symm), Kd.freshB (bP BK483) k_ hk_, Kd.freshB (bP BK509) k_ hk_, Kd.freshB (bP BK525) k_ hk_⟩))
    (case hL => have := LM536; omega)
    (case hA => have ha_ := KA107.out; rw [hk_] at ha_; exact ha_)
    (case hm => have ha_ := KY107.out; omega)
    (case hk => omega)
    intro Av82 cv82 w108 ho hb hg hat
    clear hj_ hl_ hh_ hb_ hk_ h0_
    rw [hy1_, ← Ny536.out] at ho
    clear hy1_
    have hn_ : t514.length - 1 = y536.length := (by have := (Kd.V_reads' ho).1; omega)
    rw [hn_] at ho hat ⊢
    clear hn_
    replace HO_510000 := bA (Kd.N_afterv (v := (.slice (some ⟨go109, 0, none⟩) t514.length co99)) (v1 := .slice Av82 y536.length cv82) (ok := (fun k_ => k_ ≠ gb483 ∧ k_ ≠ gb509 ∧ k_ ≠ gb525)) (by (with_reducible repeat (first | apply Kd.N_alloc | apply Kd.N_drewN | apply Kd.N_drew)); exact Kd.N_mono HO_510000.out (fun _ hk => ⟨⟨hk.2.1, ⟨hk.2.2.1, hk.2.2.2⟩⟩, hk.1⟩)) hg hat)
    replace BK483 := bA (blk_grown (g := gb483) (o := .cells #[.slice A0_0 l0_0.length c0_0, .int .i64 a0_1, .int .i64 a0_2, .int .i64 a0_3, .int .i64 a0_4, .int .i64 a0_5, .int .i64 a0_6, .int .i64 a0_7, .int .i64 a0_8] 24 (0, 0)) (bP BK483) hg (Kd.N_ne HO516.out BK483.out (by decide)))
    replace BK509 := bA (blk_grown (g := gb509) (o := .cells #[.slice Ao95 x510000_3.length co95, .int .i64 t501, .int .i64 t502, .int .i64 t503, .int .i64 t504, .int .i64 t505, .int .i64 t506, .int .i64 t507, .int .i64 t508] 24 (0, 0)) (bP BK509) hg (Kd.N_ne HO516.out BK509.out (by decide)))
    replace BK525 := bA (blk_grown (g := gb525) (o := .cells #[.slice (some ⟨go109, 0, none⟩) t514.length co99, .int .i64 t517, .int .i64 t518, .int .i64 t519, .int .i64 t520, .int .i64 t521, .int .i64 t522, .int .i64 t523, .int .i64 t524] 24 (0, 0)) (bP BK525) hg (Kd.N_ne HO516.out BK525.out (by decide)))
    replace HO516 := bA (ho)
    replace HB := bA (hb)
    clear ho hb hg
    refine hK.out _ _ ⟨bq BK525 0, bq BK525 1, bq BK525 2, bq BK525 3, bq BK525 4, bq BK525 5, bq BK525 6, bq BK525 7, bq BK525 8⟩ (fun hHeld => ?_)
    clear hK K
    refine bI 91 ?_
    refine bU (i := 11) (N := some 92) ?_
    refine last_ (i := 12) (N := none) #[true,true,true,true,true,true,true,true,true,true,true,true,true] rfl rfl (one_of HT_.out (by kernel_rfl)) (by decide) (fun K hK => ?_)
    have hs110 : w108.cell? ⟨gb525, 0, none⟩ = some (.slice (some ⟨go109, 0, none⟩) t514.length co99) := bq BK525 0
    have hfs110 := blk_frozen BK525.out 0
    have hns110_0 := NB483_525.out
    have hns110_1 := NB509_525.out
    have hms110_0 := NB525_483.out
    have hms110_1 := NB525_509.out
    refine skip_ (w1 := ?_) (by rfl) rfl ?_ ?_
    rotate_left
    ·go_simp
     rfl
    refine hK.out _ _ ?_
    clear hK K
    refine done_ (done_of HT_.out (by kernel_rfl)) ?_
    obtain ⟨hcz111_0, hcz111_1, hcz111_2, hcz111_3, hcz111_4, hcz111_5, hcz111_6, hcz111_7, hcz111_8, hfz111_0, hfz111_1, hfz111_2, hfz111_3, hfz111_4, hfz111_5, hfz111_6, hfz111_7, hfz111_8⟩ := bc9 BK525
    obtain ⟨hcz112_0, hcz112_1, hcz112_2, hcz112_3, hcz112_4, hcz112_5, hcz112_6, hcz112_7, hcz112_8, hfz112_0, hfz112_1, hfz112_2, hfz112_3, hfz112_4, hfz112_5, hfz112_6, hfz112_7, hfz112_8⟩ := bc9 BK509
    try go_wp2_with (first | ((first | ((with_reducible refine gate_callee (f := 18) rfl ?_); refine bC (some 105) Try.func18 #[.agg #[.slice Ao95 x510000_3.length co95, .int .i64 t501, .int .i64 t502, .int .i64 t503, .int .i64 t504, .int .i64 t505, .int .i64 t506, .int .i64 t507, .int .i64 t508]] ?_) | go_at_call 18); (with_reducible refine (rules_Wrong.calls k3 _ _ x510000_3 t501 t502 t503 t504 t505 t506 t507 t508 t541 _ ?side1 ?side2 A90.out).mono ?_); (case side1 => refine (Kd.N_reads' (e := 30) (base := w.heap.size) (ok := fun k_ => ((k_ ≠ gb483 ∧ (k_ ≠ gb509 ∧ k_ ≠ gb525)) ∧ some k_ ≠ (.slice Av82 y536.length cv82 : Value).ownBlock)) (n := x510000_3.length) (c := co95) ?_).2.2; exact (by (with_reducible repeat (first | apply Kd.N_alloc | apply Kd.N_drewN | apply Kd.N_drew)); exact (Kd.N_mono (Kd.N_far (p := ⟨gb525, 8, none⟩) (Kd.N_far (p := ⟨gb525, 0, none⟩) (Kd.N_mono HO_510000.out (fun k_ hk => (⟨hk, hk.1.2.2⟩ : _ ∧ k_ ≠ gb525))) (fun _ hk => hk.2) (.slice Av82 y536.length cv82)) (fun _ hk => hk.2) (.int .i64 ji62)) (fun _ h_ => h_.1)))); (case side2 => exact (Kd.N_reads' HO_510000.out).2.1); rintro e w113 ⟨rfl, hb⟩; (first | refine ⟨_, rfl, ?_⟩ | skip); replace HO_510000 := bA (Kd.N_below (by (with_reducible repeat (first | apply Kd.N_alloc | apply Kd.N_drewN | apply Kd.N_drew)); exact (Kd.N_mono (Kd.N_far (p := ⟨gb525, 8, none⟩) (Kd.N_far (p := ⟨gb525, 0, none⟩) (Kd.N_mono HO_510000.out (fun k_ hk => (⟨hk, hk.1.2.2⟩ : _ ∧ k_ ≠ gb525))) (fun _ hk => hk.2) (.slice Av82 y536.length cv82)) (fun _ hk => hk.2) (.int .i64 ji62)) (fun _ h_ => h_.1))) hb); replace HO516 := bA (Kd.V_below (by (with_reducible repeat (first | apply Kd.V_alloc | apply Kd.V_drewN | apply Kd.V_drew)); exact (Kd.V_mono (Kd.V_far_ (p := ⟨gb525, 8, none⟩) (Kd.V_far_ (p := ⟨gb525, 0, none⟩) (Kd.V_mono HO516.out (fun k_ hk => (⟨hk, hk.2.2.2⟩ : _ ∧ k_ ≠ gb525))) (fun _ hk => hk.2) (.slice Av82 y536.length cv82)) (fun _ hk => hk.2) (.int .i64 ji62)) (fun _ h_ => h_.1))) hb); replace BK483 := bA (blk_below (g := gb483) (o := .cells #[.slice A0_0 l0_0.length c0_0, .int .i64 a0_1, .int .i64 a0_2, .int .i64 a0_3, .int .i64 a0_4, .int .i64 a0_5, .int .i64 a0_6, .int .i64 a0_7, .int .i64 a0_8] 24 (0, 0)) (by (repeat ((with_reducible repeat (first | refine blk_drewN ?_ _ | refine blk_drew ?_ | refine blk_alloc ?_ _)); refine blk_far ?_ NB483_525.out _)); (with_reducible repeat (first | refine blk_drewN ?_ _ | refine blk_drew ?_ | refine blk_alloc ?_ _)); exact BK483.out) hb); replace BK509 := bA (blk_below (g := gb509) (o := .cells #[.slice Ao95 x510000_3.length co95, .int .i64 t501, .int .i64 t502, .int .i64 t503, .int .i64 t504, .int .i64 t505, .int .i64 t506, .int .i64 t507, .int .i64 t508] 24 (0, 0)) (by (repeat ((with_reducible repeat (first | refine blk_drewN ?_ _ | refine blk_drew ?_ | refine blk_alloc ?_ _)); refine blk_far ?_ NB509_525.out _)); (with_reducible repeat (first | refine blk_drewN ?_ _ | refine blk_drew ?_ | refine blk_alloc ?_ _)); exact BK509.out) hb); replace BK525 := bA (blk_below (g := gb525) (o := .cells #[.slice Av82 y536.length cv82, .int .i64 t517, .int .i64 t518, .int .i64 t519, .int .i64 t520, .int .i64 t521, .int .i64 t522, .int .i64 t523, .int .i64 ji62] 24 (0, 0)) (by (with_reducible repeat (first | refine blk_drewN ?_ _ | refine blk_drew ?_ | refine blk_alloc ?_ _)); refine blk_put (cs := #[.slice Av82 y536.length cv82, .int .i64 t517, .int .i64 t518, .int .i64 t519, .int .i64 t520, .int .i64 t521, .int .i64 t522, .int .i64 t523, .int .i64 t524]) ?_ 8 _ rfl; (with_reducible repeat (first | refine blk_drewN ?_ _ | refine blk_drew ?_ | refine blk_alloc ?_ _)); refine blk_put (cs := #[.slice (some ⟨go109, 0, none⟩) t514.length co99, .int .i64 t517, .int .i64 t518, .int .i64 t519, .int .i64 t520, .int .i64 t521, .int .i64 t522, .int .i64 t523, .int .i64 t524]) ?_ 0 _ rfl; (with_reducible repeat (first | refine blk_drewN ?_ _ | refine blk_drew ?_ | refine blk_alloc ?_ _)); exact BK525.out) hb); replace HB := bA (bS hb); (try clear hb); obtain ⟨hcz114_0, hcz114_1, hcz114_2, hcz114_3, hcz114_4, hcz114_5, hcz114_6, hcz114_7, hcz114_8, hfz114_0, hfz114_1, hfz114_2, hfz114_3, hfz114_4, hfz114_5, hfz114_6, hfz114_7, hfz114_8⟩ := bc9 BK525) | (go_at_call 18; (with_reducible refine (rules_Wrong.calls k3 _ _ y536 t517 t518 t519 t520 t521 t522 t523 ji62 t542 _ ?side1 ?side2 A92.out).mono ?_); (case side1 => repeat (first | exact (Kd.V_reads' HO516.out).2.2 | (with_reducible refine Kd.C_alloc ?_ _) | (with_reducible refine Kd.C_drewN ?_ _) | (with_reducible refine Kd.C_drew ?_))); (case side2 => exact (Kd.V_reads' HO516.out).2.1); rintro e w115 ⟨rfl, hb⟩; replace HO_510000 := bA (Kd.N_below (bNr HO_510000) hb); replace HO516 := bA (Kd.V_below (by (with_reducible repeat (first | apply Kd.V_alloc | apply Kd.V_drewN | apply Kd.V_drew)); exact HO516.out) hb); replace BK483 := bA (bB BK483 hb); replace BK509 := bA (bB BK509 hb); replace BK525 := bA (bB BK525 hb); replace HB := bA (bS hb); (try clear hb)))
    go_ret
    exact ⟨by first | rfl | (simp [errW_none, errW_some] <;> rfl) | (simp only [← hji56, ← hji59, ← hji62]; first | rfl | (simp [errW_none, errW_some] <;> rfl)) | (simp [*, errW_none, errW_some] <;> rfl), by repeat (first | (with_reducible first | exact HB.out | apply below_alloc | apply pw_below_drewN | apply below_drew1 | refine below_set ?_ GE483.out | refine below_set ?_ GE509.out | refine below_set ?_ GE525.out) | exact HB.out)⟩
end Go.Proofs.Ytjmibjmlihmglaa.G
