/- What the printed functions of package watch come to, as plain functions of whole numbers. -/
import Derived.Test.YtlbngnilfenaaaaPWatchFreshx4
namespace Go.Proofs.Ytlbngnilfenaaaa.StepWatchFresh
open Go.RowKit Go.Proofs.Ytlbngnilfenaaaa.PWatchFresh Go.Proofs.YtlbngnilfenaaaaW.PrintWords

/-- May a watch be. -/
def R (m l c s : Int) : Bool := decide (0 ≤ m ∧ m ≤ 3 ∧ 0 ≤ l ∧ l ≤ 1 ∧ 0 ≤ c ∧ c ≤ 3 ∧ 0 ≤ s ∧ s ≤ 65537 ∧ (65536 < s → m = 3) ∧ (m = 1 → c ≠ 3) ∧ (m = 0 → l = 0 ∧ c = 0 ∧ s = 0))
theorem R_true {m l c s : Int} (h : R m l c s = true) : 0 ≤ m ∧ m ≤ 3 ∧ 0 ≤ l ∧ l ≤ 1 ∧ 0 ≤ c ∧ c ≤ 3 ∧ 0 ≤ s ∧ s ≤ 65537 ∧ (65536 < s → m = 3) ∧ (m = 1 → c ≠ 3) ∧ (m = 0 → l = 0 ∧ c = 0 ∧ s = 0) := of_decide_eq_true h

theorem right_true (k : Nat) (m l c s : Int) : watch_Right.j0 (k + 1) true m l c s = some false := by simp only [watch_Right.j0, if_true]
theorem dec_no {p : Prop} [Decidable p] (h : ¬ p) : some false = some (decide p) := by rw [decide_eq_false h]
theorem dec_yes {p : Prop} [Decidable p] (h : p) : some true = some (decide p) := by rw [decide_eq_true h]
theorem right_idle (m l c s : Int) (h : m = 0) (p : Prop) [Decidable p] (hp : (l = 0 ∧ c = 0 ∧ s = 0) ↔ p) : some (m == 0 && (l == 0 && (c == 0 && (s == 0)))) = some (decide p) := by
  rw [Option.some.injEq, Bool.eq_iff_iff, decide_eq_true_iff, ← hp]
  simp [h]
theorem right_false (k : Nat) (m l c s : Int) (h1 : ¬ m < 0) (h2 : ¬ m > 3) (h3 : ¬ l < 0) (h4 : ¬ l > 1) (h5 : ¬ c < 0) (h6 : ¬ c > 3) : watch_Right.j0 (k + 1) false m l c s = some (R m l c s) := by
  simp only [watch_Right.j0, R]
  rw [if_neg (by decide)]
  by_cases h7 : s < 0
  · rw [if_pos h7]; exact dec_no (by omega)
  rw [if_neg h7]
  by_cases h8 : s > 65537
  · rw [if_pos h8]; exact dec_no (by omega)
  rw [if_neg h8]
  by_cases h9 : s > 65536
  · rw [if_pos h9]
    by_cases h10 : m = 3
    · rw [if_pos h10, if_neg (by omega), if_neg (by omega)]; exact dec_yes (by omega)
    · rw [if_neg h10]; exact dec_no (by omega)
  rw [if_neg h9]
  by_cases h11 : m = 1
  · rw [if_pos h11]
    by_cases h12 : c = 3
    · rw [if_pos h12]; exact dec_no (by omega)
    · rw [if_neg h12, if_neg (by omega)]; exact dec_yes (by omega)
  rw [if_neg h11]
  by_cases h13 : m = 0
  · rw [if_pos h13]; exact right_idle m l c s h13 _ (by omega)
  · rw [if_neg h13]; exact dec_yes (by omega)
theorem right_eq (k : Nat) (m l c s : Int) : watch_Right.f (k + 1) m l c s = some (R m l c s) := by
  unfold watch_Right.f
  by_cases h1 : m < 0
  · rw [if_pos h1, right_true]; exact dec_no (by omega)
  rw [if_neg h1]
  by_cases h2 : m > 3
  · rw [if_pos h2, right_true]; exact dec_no (by omega)
  rw [if_neg h2]
  by_cases h3 : l < 0
  · rw [if_pos h3, right_true]; exact dec_no (by omega)
  rw [if_neg h3]
  by_cases h4 : l > 1
  · rw [if_pos h4, right_true]; exact dec_no (by omega)
  rw [if_neg h4]
  by_cases h5 : c < 0
  · rw [if_pos h5, right_true]; exact dec_no (by omega)
  rw [if_neg h5]
  by_cases h6 : c > 3
  · rw [decide_eq_true h6, right_true]; exact dec_no (by omega)
  · rw [decide_eq_false h6, right_false k m l c s h1 h2 h3 h4 h5 h6]

/-- What an event makes of a watch. -/
def stepW (m l c s kd ln : Int) : Int × Int × Int × Int :=
  if R m l c s = false ∨ kd < 1 ∨ 5 < kd then (m, l, c, s)
  else if kd = 5 then (0, 0, 0, 0)
  else if kd = 1 then (1, 0, 0, 0)
  else if m ≠ 1 ∧ m ≠ 2 then (m, l, c, s)
  else if kd = 4 then (3, l, c, s)
  else if 65536 < s + 1 then (3, l, c, s + 1)
  else if m = 1 ∧ kd = 3 then (if c + 1 < 3 then (1, l, c + 1, s + 1) else if ln = 0 ∨ ln = 1 then (2, 1 - ln, c + 1, s + 1) else (3, l, c + 1, s + 1))
  else if m = 1 then (1, l, 0, s + 1)
  else (m, l, c, s + 1)

theorem wrap_one {x : Int} (h0 : -4 ≤ x) (h : x ≤ 70000) : wrap64 (x + 1) = x + 1 := by unfold wrap64; omega
theorem wrap_less {x : Int} (h0 : 0 ≤ x) (h : x ≤ 1) : wrap64 (1 - x) = 1 - x := by unfold wrap64; omega

theorem valid_eq (m l c s : Int) : watch_Valid.f m l c s = some (decide (m = 1 ∨ m = 2)) := by
  unfold watch_Valid.f
  split
  · rename_i h; rw [decide_eq_true (Or.inl h)]
  · rename_i h
    rw [Option.some.injEq, Bool.eq_iff_iff]
    simp; omega

theorem tripped_eq (m l c s ln : Int) (h0 : 0 ≤ c) (h : c ≤ 3) : watch_tripped.f m l c s ln = some (if c + 1 < 3 then (m, l, c + 1, s) else if ln = 0 ∨ ln = 1 then (2, 1 - ln, c + 1, s) else (3, l, c + 1, s)) := by
  unfold watch_tripped.f
  rw [wrap_one (by omega) (by omega)]
  by_cases h1 : c + 1 < 3
  · rw [if_pos h1, if_pos h1]
  · rw [if_neg h1, if_neg h1]
    by_cases h2 : ln = 0
    · rw [if_pos h2, if_pos (Or.inl h2), wrap_less (by omega) (by omega)]
    · rw [if_neg h2]
      by_cases h3 : ln = 1
      · rw [if_pos h3, if_pos (Or.inr h3), wrap_less (by omega) (by omega)]
      · rw [if_neg h3, if_neg (by omega)]

theorem next_eq (k : Nat) (m l c s kd ln : Int) : watch_Next.f (k + 2) m l c s kd ln = some (stepW m l c s kd ln) := by
  unfold watch_Next.f
  rw [right_eq (k + 1)]
  simp only [Option.bind_some, stepW]
  cases hR : R m l c s with
  | false => simp [watch_Next.j0]
  | true =>
    have hr := R_true hR
    rw [if_pos rfl]
    by_cases h1 : kd < 1
    · rw [if_pos h1, if_pos (by omega)]; simp [watch_Next.j0]
    · rw [if_neg h1]
      by_cases h2 : 5 < kd
      · rw [if_pos (by omega), decide_eq_true (by omega : kd > 5)]; simp [watch_Next.j0]
      · rw [if_neg (by simp; omega), decide_eq_false (by omega : ¬ kd > 5)]
        simp only [watch_Next.j0]
        rw [if_neg (by decide)]
        by_cases h3 : kd = 5
        · rw [if_pos h3, if_pos h3]
        · rw [if_neg h3, if_neg h3]
          by_cases h4 : kd = 1
          · rw [if_pos h4, if_pos h4]
          · rw [if_neg h4, if_neg h4, valid_eq, Option.bind_some]
            by_cases h5 : m ≠ 1 ∧ m ≠ 2
            · rw [if_pos h5, if_neg (by simp; omega)]
            · rw [if_neg h5, if_pos (by simp; omega)]
              by_cases h6 : kd = 4
              · rw [if_pos h6, if_pos h6]
              · rw [if_neg h6, if_neg h6, wrap_one (by omega) (by omega)]
                by_cases h7 : 65536 < s + 1
                · rw [if_pos h7, if_pos h7]
                · rw [if_neg h7, if_neg h7]
                  by_cases h8 : m = 1
                  · rw [if_pos h8]
                    by_cases h9 : kd = 3
                    · rw [if_pos ⟨h8, h9⟩, beq_iff_eq.2 h9]
                      simp only [watch_Next.j1]
                      rw [if_pos trivial, tripped_eq m l c (s + 1) ln (by omega) (by omega), h8]
                      simp only [Option.bind_some]
                    · rw [if_neg (fun h => h9 h.2), if_pos h8, beq_eq_false_iff_ne.2 h9]
                      simp only [watch_Next.j1]
                      rw [if_neg (by decide), if_pos h8, h8]
                  · rw [if_neg h8, if_neg (fun h => h8 h.1), if_neg h8]
                    simp only [watch_Next.j1]
                    rw [if_neg (by decide), if_neg h8]

theorem next_ge {k : Nat} (h : 2 ≤ k) (m l c s kd ln : Int) : watch_Next.f k m l c s kd ln = some (stepW m l c s kd ln) := by
  obtain ⟨q, rfl⟩ : ∃ q, k = q + 2 := ⟨k - 2, by omega⟩
  exact next_eq q m l c s kd ln
/-- What is fixed of three trips. -/
theorem awake_eq : coupletlaw17_awake.f 9 = some true := by decide +kernel
theorem awake_ge (k : Nat) : coupletlaw17_awake.f (k + 9) = some true := by
  induction k with
  | zero => exact awake_eq
  | succ k ih => exact coupletlaw17_awake.mono (k + 9) _ ih
theorem awake_of {k : Nat} (h : 9 ≤ k) : coupletlaw17_awake.f k = some true := by
  obtain ⟨q, rfl⟩ : ∃ q, k = q + 9 := ⟨k - 9, by omega⟩
  exact awake_ge q

/-- A watch that may be, goes on to one that may be. -/
theorem stepW_R {m l c s kd ln : Int} (h : R m l c s = true) : R (stepW m l c s kd ln).1 (stepW m l c s kd ln).2.1 (stepW m l c s kd ln).2.2.1 (stepW m l c s kd ln).2.2.2 = true := by
  have hr := R_true h
  unfold stepW
  repeat' split
  all_goals (apply decide_eq_true; first | omega | (simp at *; done) | (simp at *; omega))
end Go.Proofs.Ytlbngnilfenaaaa.StepWatchFresh
