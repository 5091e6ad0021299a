/- What a call's arguments read as: out of the machine's reading of a value, the printed kinds' own facts, with each number in its range. -/
import Derived.Test.YtjmibjmlihmglaaWordsMore
import Derived.ChangeArms
import Derived.ChangeSame
import Derived.Deep.Slices
import Derived.DataElems
import Derived.WideShapes
namespace Go.Proofs.Ytjmibjmlihmglaa.Q
open Go.RowKit Go.ChangeShapes Go.WideShapes Go.Proofs.YtjmibjmlihmglaaW.PrintWords
def Opens {α : Type} (P : Program) (t : TypeId) (d : Kd α) (wf : α → Prop) : Prop :=
  ∀ (H : Type) (enc : TypeId × Value → H) (w : World) (base : Nat) (spare : Nat → Bool) (held : Bool) (fuel : Nat) (cs : List Value) (y : DataW H × List MemPlace),
    DataW.trod enc P w base spare held fuel t cs = some y → ∃ x, d.K w x cs ∧ wf x
theorem opens_int {P : Program} {t : TypeId} {k : IntKind} (ht : P.underlying t = some (.int k)) : Opens P t (Kd.int k) (fun n => (Lit.int k n).wf = true) := by
  intro H enc w base spare held fuel cs y h
  obtain ⟨n, rfl, _, hw⟩ := DataW.trod_int ht h
  exact ⟨n, rfl, hw⟩
theorem opens_slice {α : Type} {P : Program} {t e : TypeId} {d : Kd α} {wf : α → Prop} (ht : P.underlying t = some (.slice e)) (hc : P.cellsOf e = d.sz) (he : Opens P e d wf) :
    Opens P t (Kd.slice e d) (fun xs => xs.length ≤ maxLen ∧ ∀ x ∈ xs, wf x) := by
  intro H enc w base spare held fuel cs y h
  rcases DataW.trod_slice ht h with ⟨rfl, _⟩ | ⟨a, len, cap, elems, rest, n, _, rfl, _, hb, hl, hm, hlen, hel, _, _⟩
  · exact ⟨[], ⟨none, 0, rfl, Nat.le_refl _, rfl, Nat.zero_le _, fun h0 => absurd h0 (by simp)⟩, by simp, fun x hx => by simp at hx⟩
  · have each : ∀ i, i < len → ∃ x c, c.length = d.sz ∧ d.K w x c ∧ wf x ∧ ∀ j u, c[j]? = some u → w.cell? (a.add (i * d.sz + j)) = some u := by
      intro i hi
      have h1 := hel i hi
      have h2 : i < elems.length := by omega
      rw [List.getElem?_eq_getElem h2, hc, Option.bind_eq_some_iff] at h1
      obtain ⟨c, h3, h4⟩ := h1
      obtain ⟨_, h5, h6⟩ := World.cells?_some h3
      obtain ⟨x, hx, hwf⟩ := he H enc w base spare held n c _ h4
      refine ⟨x, c, h5, hx, hwf, fun j u hj => ?_⟩
      have hjl : j < d.sz := by
        have := (List.getElem?_eq_some_iff.1 hj).1
        omega
      have := h6 j hjl
      rw [Addr.add_add] at this
      rw [this, hj]
    have all : ∀ m, m ≤ len → ∃ xs : List α, xs.length = m ∧ ∀ i x, xs[i]? = some x → ∃ c, c.length = d.sz ∧ d.K w x c ∧ wf x ∧ ∀ j u, c[j]? = some u → w.cell? (a.add (i * d.sz + j)) = some u := by
      intro m
      induction m with
      | zero => intro _; exact ⟨[], rfl, fun i x hx => by simp at hx⟩
      | succ m ih =>
        intro hm'
        obtain ⟨xs, hxl, hxs⟩ := ih (by omega)
        obtain ⟨x, c, h1, h2, h3, h4⟩ := each m (by omega)
        refine ⟨xs ++ [x], by simp [hxl], fun i z hz => ?_⟩
        by_cases hi : i < xs.length
        · rw [List.getElem?_append_left hi] at hz
          exact hxs i z hz
        · rw [List.getElem?_append_right (by omega)] at hz
          have h5 : i - xs.length = 0 := by
            have := (List.getElem?_eq_some_iff.1 hz).1
            simp at this; omega
          rw [h5] at hz
          have h6 : x = z := by simpa using hz
          subst h6
          have h7 : i = m := by omega
          subst h7
          exact ⟨c, h1, h2, h3, h4⟩
    obtain ⟨xs, hxl, hxs⟩ := all len (Nat.le_refl _)
    subst hxl
    refine ⟨xs, ⟨some a, cap, rfl, hl, rfl, by unfold maxLen at hm; omega, fun _ => ⟨a, rfl, fun j p hp => ?_⟩⟩, by omega, fun x hx => ?_⟩
    · obtain ⟨c, h1, h2, _, h4⟩ := hxs j p hp
      exact ⟨c, h1, h2, h4⟩
    · obtain ⟨i, hi⟩ := List.getElem?_of_mem hx
      obtain ⟨_, _, _, h3, _⟩ := hxs i x hi
      exact h3
def OpensF {α : Type} (P : Program) (fs : List Field) (off : Nat) (d : Kd α) (wf : α → Prop) : Prop :=
  ∀ (H : Type) (enc : TypeId × Value → H) (w : World) (base : Nat) (spare : Nat → Bool) (held : Bool) (n : Nat) (cs : List Value),
    (∀ f ∈ fs, ∃ y, DataW.trod enc P w base spare held n f.type ((cs.drop f.offset).take (P.cellsOf f.type)) = some y) → cs.length = off + d.sz → ∃ x, d.K w x (cs.drop off) ∧ wf x
theorem opensF_one {α : Type} {P : Program} {f : Field} {off : Nat} {d : Kd α} {wf : α → Prop} (h : Opens P f.type d wf) (ho : f.offset = off) (hc : P.cellsOf f.type = d.sz) : OpensF P [f] off d wf := by
  intro H enc w base spare held n cs hf hl
  obtain ⟨y, hy⟩ := hf f (by simp)
  rw [ho, hc, List.take_of_length_le (by simp; omega)] at hy
  exact h H enc w base spare held n _ y hy
theorem opensF_cons {α β : Type} {P : Program} {f : Field} {fs : List Field} {off : Nat} {d : Kd α} {d' : Kd β} {wf : α → Prop} {wf' : β → Prop} (h : Opens P f.type d wf) (ho : f.offset = off) (hc : P.cellsOf f.type = d.sz)
    (hr : OpensF P fs (off + d.sz) d' wf') : OpensF P (f :: fs) off (Kd.pair d d') (fun x => wf x.1 ∧ wf' x.2) := by
  intro H enc w base spare held n cs hf hl
  have hl' : cs.length = off + (d.sz + d'.sz) := hl
  obtain ⟨y, hy⟩ := hf f (by simp)
  rw [ho, hc] at hy
  obtain ⟨x, hx, hwf⟩ := h H enc w base spare held n _ y hy
  obtain ⟨z, hz, hwf'⟩ := hr H enc w base spare held n cs (fun g hg => hf g (List.mem_cons_of_mem _ hg)) (by omega)
  refine ⟨(x, z), ⟨_, _, ?_, hx, hz⟩, hwf, hwf'⟩
  rw [← List.drop_drop, List.take_append_drop]
theorem opens_struct {α : Type} {P : Program} {t : TypeId} {fs : Array Field} {d : Kd α} {wf : α → Prop} (ht : P.underlying t = some (.struct fs)) (hc : P.cellsOf t = d.sz) (h : OpensF P fs.toList 0 d wf) : Opens P t d wf := by
  intro H enc w base spare held fuel cs y hy
  obtain ⟨xs, n, _, _, hl, hlen, hf⟩ := DataW.trod_struct ht hy
  refine (h H enc w base spare held n cs (fun f hf' => ?_) (by omega)).imp fun x hx => by simpa using hx
  obtain ⟨i, hi⟩ := List.getElem?_of_mem hf'
  have hi' : fs[i]? = some f := by simpa using hi
  have hlt : i < xs.length := by
    have := (List.getElem?_eq_some_iff.1 hi).1
    simp at this; omega
  exact ⟨xs[i], by rw [hf i f hi', List.getElem?_eq_getElem hlt]⟩
theorem opens_iso {α β : Type} {P : Program} {t : TypeId} {d : Kd α} {wf : α → Prop} (f : β → α) (g : α → β) (hg : ∀ a, f (g a) = a) (h : Opens P t d wf) : Opens P t (Kd.iso d f) (fun b => wf (f b)) := by
  intro H enc w base spare held fuel cs y hy
  obtain ⟨x, hx, hwf⟩ := h H enc w base spare held fuel cs y hy
  exact ⟨g x, by show d.K w (f (g x)) cs; rw [hg]; exact hx, by show wf (f (g x)); rw [hg]; exact hwf⟩
end Go.Proofs.Ytjmibjmlihmglaa.Q
