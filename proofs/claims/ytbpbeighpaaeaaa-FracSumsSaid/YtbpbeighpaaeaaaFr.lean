/- Plain law: what frac's functions reckon, told by Lean's own fractions (Rat). -/
import Derived.Test.YtbpbeighpaaeaaaGx9
import Derived.Test.YtbpbeighpaaeaaaGfi
namespace Go.Proofs.Ytbpbeighpaaeaaa.Fr
open Go.RowKit Go.Proofs.YtbpbeighpaaeaaaW.PrintWords Go.Proofs.YtbpbeighpaaeaaaW.PrintLast Go.Proofs.YtbpbeighpaaeaaaW.PrintMore Go.Proofs.Ytbpbeighpaaeaaa.G
set_option linter.unusedVariables false
set_option linter.unusedSimpArgs false

theorem w64 {n : Int} (h : -9223372036854775808 ≤ n ∧ n ≤ 9223372036854775807) : wrap64 n = n := by unfold wrap64; omega
theorem mx_abs {a : Int} (h : -9223372036854775807 ≤ a ∧ a ≤ 9223372036854775807) : mx a (wrap64 (-a)) = (a.natAbs : Int) := by
  rw [w64 (by omega)]; unfold mx; split <;> omega
/-- Euclid's rounds. -/
theorem common_l0 : ∀ (k x y : Nat), y < k → frac_common.l0 k (x : Int) (y : Int) = some ((Nat.gcd x y : Nat) : Int) := by
  intro k
  induction k with
  | zero => intro x y h; omega
  | succ k ih =>
    intro x y h
    unfold frac_common.l0
    by_cases hy : y = 0
    · subst hy; simp
    · have hp : (0 : Int) < (y : Int) := by omega
      rw [if_pos (by omega), if_neg (by omega)]
      have e : Int.tmod (x : Int) (y : Int) = ((x % y : Nat) : Int) := by
        rw [Int.tmod_eq_emod_of_nonneg (by omega)]; rfl
      rw [e, ih y (x % y) (by have := Nat.mod_lt x (show 0 < y by omega); omega)]
      rw [Nat.gcd_comm y (x % y), ← Nat.gcd_rec, Nat.gcd_comm]
theorem common_eq {k : Nat} {a b : Int} (ha : -4611686018427387904 ≤ a ∧ a ≤ 4611686018427387904) (hb : -4611686018427387904 ≤ b ∧ b ≤ 4611686018427387904) (hk : 4611686018427387910 ≤ k) :
    frac_common.f k a b = some ((Int.gcd a b : Nat) : Int) := by
  unfold frac_common.f
  rw [mx_abs (by omega), mx_abs (by omega), common_l0 _ _ _ (by omega)]
  rfl
theorem lowest_l0 : ∀ (k x y : Nat), y < k → coupletref04_Lowest.l0 k (x : Int) (y : Int) = some (decide (Nat.gcd x y = 1)) := by
  intro k
  induction k with
  | zero => intro x y h; omega
  | succ k ih =>
    intro x y h
    unfold coupletref04_Lowest.l0
    by_cases hy : y = 0
    · subst hy
      simp only [Nat.gcd_zero_right]
      rw [if_neg (by omega)]
      congr 1
      rw [Bool.eq_iff_iff]; simp; omega
    · have hp : (0 : Int) < (y : Int) := by omega
      rw [if_pos (by omega), if_neg (by omega)]
      have e : Int.tmod (x : Int) (y : Int) = ((x % y : Nat) : Int) := by
        rw [Int.tmod_eq_emod_of_nonneg (by omega)]; rfl
      rw [e, ih y (x % y) (by have := Nat.mod_lt x (show 0 < y by omega); omega)]
      have hg : Nat.gcd y (x % y) = Nat.gcd x y := by rw [Nat.gcd_comm y (x % y), ← Nat.gcd_rec, Nat.gcd_comm]
      simp only [hg]
theorem lowest_eq {k : Nat} {a b : Int} (ha : -4611686018427387904 ≤ a ∧ a ≤ 4611686018427387904) (hb : 0 ≤ b ∧ b ≤ 4611686018427387904) (hk : 4611686018427387910 ≤ k) :
    coupletref04_Lowest.f k a b = some (decide (Int.gcd a b = 1)) := by
  obtain ⟨k, rfl⟩ : ∃ n, k = n + 1 := ⟨k - 1, by omega⟩
  unfold coupletref04_Lowest.f
  have hb' : b = (b.natAbs : Int) := by omega
  have e : ∀ x : Int, x = (a.natAbs : Int) → coupletref04_Lowest.j0 (k + 1) x b = some (decide (Int.gcd a b = 1)) := by
    intro x hx
    unfold coupletref04_Lowest.j0
    dsimp only
    rw [hx, hb', lowest_l0 _ _ _ (by omega)]
    congr 1
  by_cases h : a < 0
  · rw [if_pos h]; exact e _ (by rw [w64 (by omega)]; omega)
  · rw [if_neg h]; exact e _ (by omega)

/-- A fraction as its parts, or the Bad one. -/
def ofR (r : Rat) : Int × Int × Bool := if r.num ≤ 1073741824 ∧ -1073741824 ≤ r.num ∧ r.den ≤ 1073741824 then (r.num, (r.den : Int), false) else (0, 0, true)
def R (n d : Int) : Rat := Rat.divInt n d
def small (r : Rat) : Prop := r.num ≤ 1073741824 ∧ -1073741824 ≤ r.num ∧ r.den ≤ 1073741824
theorem ofR_small {r : Rat} (h : small r) : ofR r = (r.num, (r.den : Int), false) := if_pos h
theorem ofR_wrong {r : Rat} (h : ¬ small r) : ofR r = (0, 0, true) := if_neg h
/-- May it be? -/
def fineP (n d : Int) (bad : Bool) : Bool := decide (bad = false ∧ 1 ≤ d ∧ d ≤ 1073741824 ∧ n ≤ 1073741824 ∧ -1073741824 ≤ n ∧ Int.gcd n d = 1)
def newP (n d : Int) : Int × Int × Bool := if n > 1152921504606846976 ∨ n < -1152921504606846976 ∨ d > 1152921504606846976 ∨ d < -1152921504606846976 ∨ d = 0 then (0, 0, true) else ofR (R n d)

theorem num_pos {n d : Int} (hd : 0 < d) : (R n d).num = n / (Int.gcd n d : Int) := by
  unfold R; rw [Rat.num_divInt, Int.sign_eq_one_of_pos hd, Int.one_mul, Int.gcd_comm]
theorem den_pos' {n d : Int} (hd : 0 < d) : ((R n d).den : Int) = d / (Int.gcd n d : Int) := by
  unfold R; rw [Rat.den_divInt, if_neg (by omega), Int.gcd_comm d n]
  rw [Int.natCast_ediv]
  congr 1; omega
theorem new_j1 {k : Nat} {n d : Int} (hn : -1152921504606846976 ≤ n ∧ n ≤ 1152921504606846976) (hd : 0 < d ∧ d ≤ 1152921504606846976) (hk : 4611686018427387911 ≤ k) :
    frac_New.j1 k n d = some (ofR (R n d)) := by
  obtain ⟨k, rfl⟩ : ∃ n, k = n + 1 := ⟨k - 1, by omega⟩
  unfold frac_New.j1
  dsimp only
  rw [common_eq (by omega) (by omega) (by omega)]
  simp only [Option.bind_some]
  have g0 : 0 < Int.gcd n d := Int.gcd_pos_of_ne_zero_right n (by omega)
  rw [if_neg (by omega)]
  have e1 : Int.tdiv n (Int.gcd n d : Int) = (R n d).num := by
    rw [Int.tdiv_eq_ediv_of_dvd (Int.gcd_dvd_left ..), num_pos hd.1]
  have e2 : Int.tdiv d (Int.gcd n d : Int) = ((R n d).den : Int) := by
    rw [Int.tdiv_eq_ediv_of_dvd (Int.gcd_dvd_right ..), den_pos' hd.1]
  have b1 : -1152921504606846976 ≤ (R n d).num ∧ (R n d).num ≤ 1152921504606846976 := by
    rw [num_pos hd.1]
    have h1 : (n / (Int.gcd n d : Int)) * (Int.gcd n d : Int) = n := Int.ediv_mul_cancel (Int.gcd_dvd_left ..)
    constructor
    · apply Int.not_lt.mp; intro hc
      have : (n / (Int.gcd n d : Int)) * (Int.gcd n d : Int) ≤ (n / (Int.gcd n d : Int)) * 1 := Int.mul_le_mul_of_nonpos_left (by omega) (by omega)
      omega
    · apply Int.not_lt.mp; intro hc
      have : (n / (Int.gcd n d : Int)) * 1 ≤ (n / (Int.gcd n d : Int)) * (Int.gcd n d : Int) := Int.mul_le_mul_of_nonneg_left (by omega) (by omega)
      omega
  have b2 : (1 : Int) ≤ ((R n d).den : Int) ∧ ((R n d).den : Int) ≤ 1152921504606846976 := by
    have := (R n d).den_pos
    refine ⟨by omega, ?_⟩
    rw [den_pos' hd.1]
    exact Int.le_trans (Int.ediv_le_self _ (by omega)) hd.2
  rw [e1, e2, w64 (by omega), w64 (by omega)]
  simp only [frac_Wrong.f, Option.bind_some]
  generalize R n d = r at *
  unfold ofR
  by_cases h1 : r.num > 1073741824
  · rw [if_pos h1, if_neg (by omega)]
  · rw [if_neg h1]
    by_cases h2 : r.num < -1073741824
    · rw [if_pos h2, if_neg (by omega)]
    · rw [if_neg h2]
      by_cases h3 : (r.den : Int) > 1073741824
      · rw [if_pos h3, if_neg (by omega)]
      · rw [if_neg h3, if_pos (by omega)]
theorem new_eq {k : Nat} {n d : Int} (hk : 4611686018427387912 ≤ k) : frac_New.f k n d = some (newP n d) := by
  obtain ⟨k, rfl⟩ : ∃ n, k = n + 1 := ⟨k - 1, by omega⟩
  have hw : ∀ x y, frac_New.j0 (k + 1) x y true = some (0, 0, true) := by intro x y; unfold frac_New.j0; simp [frac_Wrong.f]
  unfold frac_New.f newP
  by_cases h1 : n > 1152921504606846976
  · rw [if_pos h1, hw, if_pos (by omega)]
  · rw [if_neg h1]
    by_cases h2 : n < -1152921504606846976
    · rw [if_pos h2, hw, if_pos (by omega)]
    · rw [if_neg h2]
      by_cases h3 : d > 1152921504606846976
      · rw [if_pos h3, hw, if_pos (by omega)]
      · rw [if_neg h3]
        by_cases h4 : d < -1152921504606846976
        · rw [if_pos h4, hw, if_pos (by omega)]
        · rw [if_neg h4]
          by_cases h5 : d = 0
          · rw [show (d == 0) = true by simp [h5], hw, if_pos (by omega)]
          · rw [show (d == 0) = false by simp [h5], if_neg (by omega)]
            unfold frac_New.j0
            dsimp only
            rw [if_neg (by decide)]
            by_cases h6 : d < 0
            · rw [if_pos h6, w64 (by omega), w64 (by omega), new_j1 (by omega) (by omega) (by omega)]
              unfold R; rw [Rat.neg_divInt_neg]
            · rw [if_neg h6, new_j1 (by omega) (by omega) (by omega)]

theorem fine_R {n d : Int} {bad : Bool} (h : fineP n d bad = true) : (R n d).num = n ∧ ((R n d).den : Int) = d ∧ small (R n d) ∧ bad = false := by
  unfold fineP at h
  have h := of_decide_eq_true h
  obtain ⟨h1, h2, h3, h4, h5, h6⟩ := h
  have e1 : (R n d).num = n := by rw [num_pos (by omega), h6]; simp
  have e2 : ((R n d).den : Int) = d := by rw [den_pos' (by omega), h6]; simp
  exact ⟨e1, e2, ⟨by omega, by omega, by omega⟩, h1⟩
theorem fine_of {r : Rat} (h : small r) : fineP r.num r.den false = true := by
  obtain ⟨h1, h2, h3⟩ := h
  have := r.den_pos
  unfold fineP
  apply decide_eq_true
  refine ⟨rfl, by omega, by omega, h1, h2, ?_⟩
  have hr : Nat.gcd r.num.natAbs r.den = 1 := r.reduced
  simpa [Int.gcd] using hr
theorem R_self (r : Rat) : R r.num r.den = r := Rat.num_divInt_den r
theorem fine_eq {k : Nat} {n d : Int} {bad : Bool} (hk : 4611686018427387912 ≤ k) : frac_Frac_Fine.f k n d bad = some (fineP n d bad) := by
  unfold frac_Frac_Fine.f
  by_cases hb : bad = true
  · rw [if_pos hb]; simp [fineP, hb]
  · rw [if_neg hb]
    have hb : bad = false := by simpa using hb
    subst hb
    by_cases h1 : d ≥ 1
    · rw [if_pos h1]
      by_cases h2 : d ≤ 1073741824
      · rw [if_pos h2]
        by_cases h3 : n ≤ 1073741824
        · rw [if_pos h3]
          by_cases h4 : n ≥ -1073741824
          · rw [if_pos h4, new_eq hk]
            simp only [Option.bind_some]
            congr 1
            unfold newP
            rw [if_neg (by omega)]
            by_cases h5 : Int.gcd n d = 1
            · have hf : fineP n d false = true := by unfold fineP; exact decide_eq_true ⟨rfl, by omega, h2, h3, by omega, h5⟩
              obtain ⟨e1, e2, e3, _⟩ := fine_R hf
              rw [ofR_small e3, hf]; simp [e1, e2]
            · have hf : fineP n d false = false := by unfold fineP; exact decide_eq_false (fun hc => h5 hc.2.2.2.2.2)
              rw [hf]
              unfold ofR
              split
              · apply Bool.eq_false_iff.mpr
                intro hc
                simp only [Bool.and_eq_true, beq_iff_eq] at hc
                have hr : Nat.gcd (R n d).num.natAbs (R n d).den = 1 := (R n d).reduced
                apply h5
                have hr' : Int.gcd (R n d).num ((R n d).den : Int) = 1 := by simpa [Int.gcd] using hr
                rw [hc.1, hc.2.1] at hr'
                exact hr'
              · simp
          · rw [if_neg h4]; unfold fineP; rw [decide_eq_false (by omega)]
        · rw [if_neg h3]; unfold fineP; rw [decide_eq_false (by omega)]
      · rw [if_neg h2]; unfold fineP; rw [decide_eq_false (by omega)]
    · rw [if_neg h1]; unfold fineP; rw [decide_eq_false (by omega)]
/-- The law's own 'fine' is the same. -/
theorem lawfine_eq {k : Nat} {n d : Int} {bad : Bool} (hk : 4611686018427387912 ≤ k) : coupletlaw04_fine.f k n d bad = some (fineP n d bad) := by
  unfold coupletlaw04_fine.f
  by_cases hb : bad = true
  · rw [if_pos hb]; simp [fineP, hb]
  · rw [if_neg hb]
    have hb : bad = false := by simpa using hb
    subst hb
    simp only [coupletlaw04_small.f]
    by_cases h1 : d ≥ 1
    · rw [if_pos h1, if_pos (by omega)]
      simp only [Option.bind_some]
      by_cases h2 : d ≤ 1073741824
      · rw [if_pos (decide_eq_true h2)]
        by_cases h4 : n ≥ -1073741824
        · rw [if_pos h4]
          simp only [Option.bind_some]
          by_cases h3 : n ≤ 1073741824
          · rw [if_pos (decide_eq_true h3), lowest_eq (by omega) (by omega) (by omega)]
            simp only [Option.bind_some]
            congr 1
            unfold fineP
            rw [Bool.eq_iff_iff]; simp only [decide_eq_true_eq]
            constructor
            · intro h; exact ⟨by trivial, by omega, h2, h3, by omega, h⟩
            · intro h; exact h.2.2.2.2.2
          · rw [if_neg (by simpa using h3)]; unfold fineP; rw [decide_eq_false (by omega)]
        · rw [if_neg h4]; simp only [Option.bind_some]; rw [if_neg (by decide)]; unfold fineP; rw [decide_eq_false (by omega)]
      · rw [if_neg (by simpa using h2)]; unfold fineP; rw [decide_eq_false (by omega)]
    · rw [if_neg h1]; unfold fineP; rw [decide_eq_false (by omega)]
end Go.Proofs.Ytbpbeighpaaeaaa.Fr
