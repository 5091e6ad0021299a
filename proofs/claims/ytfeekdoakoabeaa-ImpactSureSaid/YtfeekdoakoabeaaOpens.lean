/- What a call's arguments read as: out of the machine's reading of a value, the printed kinds' own facts, with each number in its range. -/
import Derived.Test.YtfeekdoakoabeaaWordsMore
import Derived.ChangeArms
import Derived.ChangeSame
import Derived.Deep.Slices
import Derived.DataElems
import Derived.WideShapes
namespace Go.Proofs.Ytfeekdoakoabeaa.Q
open Go.RowKit Go.ChangeShapes Go.WideShapes Go.Proofs.YtfeekdoakoabeaaW.PrintWords
def Opens {α : Type} (P : Program) (t : TypeId) (d : Kd α) (wf : α → Prop) : Prop :=
  ∀ (H : Type) (enc : TypeId × Value → H) (w : World) (base : Nat) (spare : Nat → Bool) (held : Bool) (fuel : Nat) (cs : List Value) (y : DataW H × List MemPlace),
    DataW.trod enc P w base spare held fuel t cs = some y → ∃ x, d.K w x cs ∧ wf x
theorem opens_int {P : Program} {t : TypeId} {k : IntKind} (ht : P.underlying t = some (.int k)) : Opens P t (Kd.int k) (fun n => (Lit.int k n).wf = true) := by
  intro H enc w base spare held fuel cs y h
  obtain ⟨n, rfl, _, hw⟩ := DataW.trod_int ht h
  exact ⟨n, rfl, hw⟩
def OpensF {α : Type} (P : Program) (fs : List Field) (off : Nat) (d : Kd α) (wf : α → Prop) : Prop :=
  ∀ (H : Type) (enc : TypeId × Value → H) (w : World) (base : Nat) (spare : Nat → Bool) (held : Bool) (n : Nat) (cs : List Value),
    (∀ f ∈ fs, ∃ y, DataW.trod enc P w base spare held n f.type ((cs.drop f.offset).take (P.cellsOf f.type)) = some y) → cs.length = off + d.sz → ∃ x, d.K w x (cs.drop off) ∧ wf x
theorem opensF_one {α : Type} {P : Program} {f : Field} {off : Nat} {d : Kd α} {wf : α → Prop} (h : Opens P f.type d wf) (ho : f.offset = off) (hc : P.cellsOf f.type = d.sz) : OpensF P [f] off d wf := by
  intro H enc w base spare held n cs hf hl
  obtain ⟨y, hy⟩ := hf f (by simp)
  rw [ho, hc, List.take_of_length_le (by simp; omega)] at hy
  exact h H enc w base spare held n _ y hy
theorem opensF_cons {α β : Type} {P : Program} {f : Field} {fs : List Field} {off : Nat} {d : Kd α} {d' : Kd β} {wf : α → Prop} {wf' : β → Prop} (h : Opens P f.type d wf) (ho : f.offset = off) (hc : P.cellsOf f.type = d.sz)
    (hr : OpensF P fs (off + d.sz) d' wf') : OpensF P (f :: fs) off (Kd.pair d d') (fun x => wf x.1 ∧ wf' x.2) := by
  intro H enc w base spare held n cs hf hl
  have hl' : cs.length = off + (d.sz + d'.sz) := hl
  obtain ⟨y, hy⟩ := hf f (by simp)
  rw [ho, hc] at hy
  obtain ⟨x, hx, hwf⟩ := h H enc w base spare held n _ y hy
  obtain ⟨z, hz, hwf'⟩ := hr H enc w base spare held n cs (fun g hg => hf g (List.mem_cons_of_mem _ hg)) (by omega)
  refine ⟨(x, z), ⟨_, _, ?_, hx, hz⟩, hwf, hwf'⟩
  rw [← List.drop_drop, List.take_append_drop]
theorem opens_struct {α : Type} {P : Program} {t : TypeId} {fs : Array Field} {d : Kd α} {wf : α → Prop} (ht : P.underlying t = some (.struct fs)) (hc : P.cellsOf t = d.sz) (h : OpensF P fs.toList 0 d wf) : Opens P t d wf := by
  intro H enc w base spare held fuel cs y hy
  obtain ⟨xs, n, _, _, hl, hlen, hf⟩ := DataW.trod_struct ht hy
  refine (h H enc w base spare held n cs (fun f hf' => ?_) (by omega)).imp fun x hx => by simpa using hx
  obtain ⟨i, hi⟩ := List.getElem?_of_mem hf'
  have hi' : fs[i]? = some f := by simpa using hi
  have hlt : i < xs.length := by
    have := (List.getElem?_eq_some_iff.1 hi).1
    simp at this; omega
  exact ⟨xs[i], by rw [hf i f hi', List.getElem?_eq_getElem hlt]⟩
theorem trod_arr {H : Type} {enc : TypeId × Value → H} {P : Program} {w : World} {base : Nat} {spare : Nat → Bool} {held : Bool} {fuel n : Nat} {t e : TypeId} {cs : List Value} {x : DataW H × List MemPlace} (ht : P.underlying t = some (.array n e)) (h : DataW.trod enc P w base spare held fuel t cs = some x) :
    ∃ m, cs.length = P.cellsOf t ∧ ∀ i, i < n → ∃ y, DataW.trod enc P w base spare held m e ((cs.drop (i * P.cellsOf e)).take (P.cellsOf e)) = some y := by
  cases fuel with
  | zero => simp [DataW.trod] at h
  | succ m =>
    unfold DataW.trod at h
    rw [ht] at h
    split at h <;> simp_all
    obtain ⟨hl, xs, hp, hd⟩ := h
    refine ⟨m, fun i hi => ?_⟩
    have h1 := mapM_some_get hp i i (by simp [hi])
    have h2 := mapM_some_length hp
    have h3 : i < xs.length := by simp at h2; omega
    exact ⟨xs[i].1, xs[i].2, by rw [h1, List.getElem?_eq_getElem h3]⟩
theorem opens_array {α : Type} {P : Program} {t e : TypeId} {n c : Nat} {fs : List Field} {d : Kd α} {wf : α → Prop} (ht : P.underlying t = some (.array n e)) (hc : P.cellsOf t = d.sz) (he : P.cellsOf e = c) (_h0 : 0 < c)
    (hfs : (fs.all fun f => f.type == e && (f.offset % c == 0 && Nat.blt (f.offset / c) n)) = true) (h : OpensF P fs 0 d wf) : Opens P t d wf := by
  intro H enc w base spare held fuel cs y hy
  obtain ⟨m, hl, hf⟩ := trod_arr ht hy
  refine (h H enc w base spare held m cs (fun f hf' => ?_) (by omega)).imp fun x hx => by simpa using hx
  have h1 := List.all_eq_true.1 hfs f hf'
  simp only [Bool.and_eq_true, beq_iff_eq, Nat.blt_eq] at h1
  obtain ⟨h2, h3, h4⟩ := h1
  have h5 := hf (f.offset / c) h4
  rw [he, show f.offset / c * c = f.offset from Nat.div_mul_cancel (Nat.dvd_of_mod_eq_zero h3)] at h5
  rw [h2, he]; exact h5
theorem okWide_array {P : Program} {w : World} {r : Reach} {base n : Nat} {t e : TypeId} {v : Value} (ht : P.underlying t = some (.array n e)) (h : Value.okWide P w r base t v) : ∃ cs, v = .agg cs ∧ cs.size = P.cellsOf t := by
  simp only [Value.okWide, ht] at h
  obtain ⟨cs, h1, h2, _⟩ := h
  exact ⟨cs, h1, h2⟩
theorem opens_iso {α β : Type} {P : Program} {t : TypeId} {d : Kd α} {wf : α → Prop} (f : β → α) (g : α → β) (hg : ∀ a, f (g a) = a) (h : Opens P t d wf) : Opens P t (Kd.iso d f) (fun b => wf (f b)) := by
  intro H enc w base spare held fuel cs y hy
  obtain ⟨x, hx, hwf⟩ := h H enc w base spare held fuel cs y hy
  exact ⟨g x, by show d.K w (f (g x)) cs; rw [hg]; exact hx, by show wf (f (g x)); rw [hg]; exact hwf⟩
end Go.Proofs.Ytfeekdoakoabeaa.Q
