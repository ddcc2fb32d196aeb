/- An argument that the row reads is, as the printed words have it, a value of its kind: whole numbers, bools, strings, structs of these, and slices of any of them. -/
import Derived.Test.YtbpbeighpaaeaaaWWords
import Derived.Deep.Slices
import Derived.ProofKit
namespace Go.Proofs.Ytbpbeighpaaeaaa.Open
open Go.ChangeShapes Go.WideShapes Go.Deep Go.Proofs.YtbpbeighpaaeaaaW.PrintWords

/-- What is read at type t is of kind d, and g holds of it. -/
structure Opens {α : Type} (P : Program) (t : TypeId) (d : Kd α) (g : α → Prop) : Prop where
  op : ∀ {H : Type} {enc : TypeId × Value → H} {w : World} {base : Nat} {spare : Nat → Bool} {held : Bool} {n : Nat} {cs : List Value} {y : DataW H × List MemPlace},
    DataW.trod enc P w base spare held n t cs = some y → ∃ x, d.K w x cs ∧ g x

theorem opens_int {P : Program} {t : TypeId} {k : IntKind} (h : P.underlying t = some (.int k)) : Opens P t (Kd.int k) (fun x => (Lit.int k x).wf = true) := ⟨by
  intro H enc w base spare held n cs y hy
  obtain ⟨x, rfl, _, hx⟩ := DataW.trod_int h hy
  exact ⟨x, rfl, hx⟩⟩
theorem opens_bool {P : Program} {t : TypeId} (h : P.underlying t = some .bool) : Opens P t Kd.bool (fun _ => True) := ⟨by
  intro H enc w base spare held n cs y hy
  obtain ⟨x, rfl, _⟩ := DataW.trod_bool h hy
  exact ⟨x, rfl, trivial⟩⟩
theorem opens_string {P : Program} {t : TypeId} (h : P.underlying t = some .string) : Opens P t Kd.string (fun s => s.size ≤ maxLen) := ⟨by
  intro H enc w base spare held n cs y hy
  obtain ⟨x, rfl, _, hx⟩ := DataW.trod_string h hy
  exact ⟨x, rfl, hx⟩⟩

theorem list_of_each {α : Type} {p : Nat → α → Prop} (n : Nat) (h : ∀ i, i < n → ∃ x, p i x) : ∃ l : List α, l.length = n ∧ ∀ (i : Nat) x, l[i]? = some x → p i x := by
  induction n with
  | zero => exact ⟨[], rfl, fun i x hx => by simp at hx⟩
  | succ n ih =>
    obtain ⟨l, hl, hp⟩ := ih (fun i hi => h i (by omega))
    obtain ⟨x, hx⟩ := h n (by omega)
    refine ⟨l ++ [x], by simp [hl], fun i y hy => ?_⟩
    by_cases hi : i < n
    · rw [List.getElem?_append_left (by omega)] at hy
      exact hp i y hy
    · rw [List.getElem?_append_right (by omega)] at hy
      by_cases e : i = n
      · subst e
        rw [hl, Nat.sub_self] at hy
        simp at hy
        subst hy
        exact hx
      · rw [List.getElem?_eq_none (by simp; omega)] at hy
        cases hy

theorem opens_slice {α : Type} {P : Program} {t e : TypeId} {d : Kd α} {g : α → Prop} (ht : P.underlying t = some (.slice e)) (hs : P.cellsOf e = d.sz) (hd : Opens P e d g) :
    Opens P t (Kd.slice e d) (fun xs => ∀ x ∈ xs, g x) := ⟨by
  intro H enc w base spare held n cs y hy
  rcases open_slice ht hy with ⟨rfl, _⟩ | ⟨a, len, cap, m, n', D, Pl, rfl, hb, hl, hm, hmm, _, hx⟩
  · exact ⟨[], ⟨none, 0, rfl, Nat.le_refl _, rfl, by simp, fun h => by simp at h⟩, fun x hx => by cases hx⟩
  · have hlm : len ≤ m := by rw [hmm]; split <;> omega
    obtain ⟨l, hlen, hp⟩ := list_of_each (p := fun i x => ∃ cs', w.cells? base (a.add (i * P.cellsOf e)) (P.cellsOf e) = some cs' ∧ d.K w x cs' ∧ g x) len (fun i hi => by
      obtain ⟨cs', h1, h2⟩ := hx i (by omega)
      obtain ⟨x, hK, hg⟩ := hd.op h2
      exact ⟨x, cs', h1, hK, hg⟩)
    refine ⟨l, ⟨some a, cap, by rw [hlen], by omega, ⟨rfl, by rw [hlen]; unfold maxLen at hm; omega, fun _ => ⟨a, rfl, fun j p hj => ?_⟩⟩⟩, fun x hx => ?_⟩
    · obtain ⟨cs', h1, h2, _⟩ := hp j p hj
      obtain ⟨_, hln, hcell⟩ := World.cells?_some h1
      refine ⟨cs', by rw [hln, hs], h2, fun i u hi => ?_⟩
      have hi' : i < P.cellsOf e := by
        obtain ⟨h3, _⟩ := List.getElem?_eq_some_iff.1 hi
        omega
      have h4 := hcell i hi'
      rw [Go.Deep.add_add, hi, hs] at h4
      exact h4
    · obtain ⟨i, hi⟩ := List.getElem?_of_mem hx
      obtain ⟨_, _, _, h3⟩ := hp i x hi
      exact h3⟩

/-- What is read of the fields fs, from cell off on. -/
structure OpensFs {α : Type} (P : Program) (fs : List Field) (off tot : Nat) (d : Kd α) (g : α → Prop) : Prop where
  op : ∀ {H : Type} {enc : TypeId × Value → H} {w : World} {base : Nat} {spare : Nat → Bool} {held : Bool} {n : Nat} {cs : List Value},
    cs.length = tot → (∀ (i : Nat) (f : Field), fs[i]? = some f → ∃ y, DataW.trod enc P w base spare held n f.type ((cs.drop f.offset).take (P.cellsOf f.type)) = some y) → ∃ x, d.K w x (cs.drop off) ∧ g x

theorem fs_last {α : Type} {P : Program} {f : Field} {off tot : Nat} {d : Kd α} {g : α → Prop} (ho : f.offset = off) (hc : off + P.cellsOf f.type = tot) (hd : Opens P f.type d g) : OpensFs P [f] off tot d g := ⟨by
  intro H enc w base spare held n cs hl h
  obtain ⟨y, hy⟩ := h 0 f rfl
  rw [ho, List.take_of_length_le (by rw [List.length_drop]; omega)] at hy
  exact hd.op hy⟩
theorem fs_cons {α β : Type} {P : Program} {f : Field} {rest : List Field} {off m tot : Nat} {d : Kd α} {d' : Kd β} {g : α → Prop} {g' : β → Prop} (ho : f.offset = off) (hm : P.cellsOf f.type = m) (hd : Opens P f.type d g) (hr : OpensFs P rest (off + m) tot d' g') :
    OpensFs P (f :: rest) off tot (Kd.pair d d') (fun x => g x.1 ∧ g' x.2) := ⟨by
  intro H enc w base spare held n cs hl h
  obtain ⟨y, hy⟩ := h 0 f rfl
  rw [ho, hm] at hy
  obtain ⟨x, hx, gx⟩ := hd.op hy
  obtain ⟨x', hx', gx'⟩ := hr.op hl (fun i f' hi => h (i + 1) f' hi)
  refine ⟨(x, x'), ⟨_, _, ?_, hx, hx'⟩, gx, gx'⟩
  rw [← List.drop_drop, List.take_append_drop]⟩
theorem opens_struct {α : Type} {P : Program} {t : TypeId} {fs : Array Field} {d : Kd α} {g : α → Prop} (ht : P.underlying t = some (.struct fs)) (hf : OpensFs P fs.toList 0 (P.cellsOf t) d g) : Opens P t d g := ⟨by
  intro H enc w base spare held n cs y hy
  obtain ⟨xs, n', rfl, _, hl, hxl, hx⟩ := DataW.trod_struct ht hy
  have := hf.op (enc := enc) (w := w) (base := base) (spare := spare) (held := held) (n := n') (cs := cs) hl (fun i f hi => by
    rw [Array.getElem?_toList] at hi
    have hi' : i < xs.length := by
      rw [hxl]
      exact (Array.getElem?_eq_some_iff.1 hi).1
    exact ⟨xs[i], by rw [hx i f hi, List.getElem?_eq_getElem hi']⟩)
  simpa using this⟩
theorem opens_iso {α β : Type} {P : Program} {t : TypeId} {d : Kd α} {g : α → Prop} {f : β → α} (inv : α → β) (hi : ∀ x, f (inv x) = x) (h : Opens P t d g) : Opens P t (Kd.iso d f) (fun x => g (f x)) := ⟨by
  intro H enc w base spare held n cs y hy
  obtain ⟨x, hx, gx⟩ := h.op hy
  refine ⟨inv x, ?_, ?_⟩
  · show d.K w (f (inv x)) cs
    rw [hi]; exact hx
  · show g (f (inv x))
    rw [hi]; exact gx⟩
theorem opens_weak {α : Type} {P : Program} {t : TypeId} {d : Kd α} {g g' : α → Prop} (h : Opens P t d g) (hg : ∀ x, g x → g' x) : Opens P t d g' := ⟨by
  intro H enc w base spare held n cs y hy
  obtain ⟨x, hx, gx⟩ := h.op hy
  exact ⟨x, hx, hg x gx⟩⟩

section
variable {α : Type} {H : Type} {enc : TypeId × Value → H} {P : Program} {w : World} {base b0 : Nat} {spare : Nat → Bool} {held : Bool} {r : Reach} {t e : TypeId} {v : Value} {y : DataW H} {p : List MemPlace} {d : Kd α} {g : α → Prop}
/-- A struct by value. -/
theorem arg_agg {fs : Array Field} (hO : Opens P t d g) (ht : P.underlying t = some (.struct fs)) (hv : Value.okWide P w r b0 t v) (h : DataW.Trod enc P w base spare held t v y p) : ∃ x cs, v = .agg cs ∧ d.K w x cs.toList ∧ g x := by
  obtain ⟨cs, rfl, _⟩ := okWide_struct ht hv
  obtain ⟨fuel, hf⟩ := h
  obtain ⟨x, hx, gx⟩ := hO.op hf
  exact ⟨x, cs, rfl, by simpa [Value.cells] using hx, gx⟩
/-- A slice. -/
theorem arg_slice {g : List α → Prop} (hO : Opens P t (Kd.slice e d) g) (ht : P.underlying t = some (.slice e)) (hv : Value.okWide P w r b0 t v) (h : DataW.Trod enc P w base spare held t v y p) :
    ∃ A c xs, v = .slice A xs.length c ∧ xs.length ≤ c ∧ Kd.C d w A xs.length xs ∧ g xs := by
  obtain ⟨a, len, cap, rfl⟩ := okWide_slice ht hv
  obtain ⟨fuel, hf⟩ := h
  obtain ⟨x, ⟨A, c, he, hl, hC⟩, gx⟩ := hO.op hf
  simp [Value.cells] at he
  obtain ⟨rfl, rfl, rfl⟩ := he
  exact ⟨_, _, x, rfl, hl, hC, gx⟩
end
end Go.Proofs.Ytbpbeighpaaeaaa.Open
