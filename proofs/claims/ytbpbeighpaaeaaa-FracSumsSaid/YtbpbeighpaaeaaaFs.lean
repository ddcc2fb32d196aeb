/- Plain law: sums, products, quotients: Lean's own of Rat. -/
import Derived.Test.YtbpbeighpaaeaaaFr
namespace Go.Proofs.Ytbpbeighpaaeaaa.Fr
open Go.RowKit Go.Proofs.YtbpbeighpaaeaaaW.PrintWords Go.Proofs.YtbpbeighpaaeaaaW.PrintLast Go.Proofs.YtbpbeighpaaeaaaW.PrintMore Go.Proofs.Ytbpbeighpaaeaaa.G
set_option linter.unusedVariables false
set_option linter.unusedSimpArgs false

theorem awake_eq {k : Nat} (hk : 90 ≤ k) : coupletlaw04_awake.f k = some true := by
  have h := LeO.up coupletlaw04_awake.mono coupletlaw04_awake.some_ (k - 90)
  rwa [show 90 + (k - 90) = k by omega] at h
theorem mulb {x y : Int} (hx : x.natAbs ≤ 1073741824) (hy : y.natAbs ≤ 1073741824) : -1152921504606846976 ≤ x * y ∧ x * y ≤ 1152921504606846976 := by
  have h := Nat.mul_le_mul hx hy
  rw [← Int.natAbs_mul] at h
  omega
theorem num_bd {n d : Int} (hd : 0 < d) : (R n d).num.natAbs ≤ n.natAbs := by
  rw [num_pos hd]
  have g0 : 0 < Int.gcd n d := Int.gcd_pos_of_ne_zero_right n (by omega)
  have h1 : (n / (Int.gcd n d : Int)) * (Int.gcd n d : Int) = n := Int.ediv_mul_cancel (Int.gcd_dvd_left ..)
  have h2 := congrArg Int.natAbs h1
  rw [Int.natAbs_mul] at h2
  have h3 : (n / (Int.gcd n d : Int)).natAbs * 1 ≤ (n / (Int.gcd n d : Int)).natAbs * (Int.gcd n d : Int).natAbs := Nat.mul_le_mul_left _ (by omega)
  omega
theorem den_bd {n d : Int} (hd : 0 < d) : ((R n d).den : Int) ≤ d := by
  rw [den_pos' hd]; exact Int.ediv_le_self _ (by omega)
theorem newP_self (r : Rat) : newP r.num r.den = ofR r := by
  have := r.den_pos
  unfold newP
  split
  · rw [ofR_wrong]; unfold small; omega
  · rw [R_self]
theorem newP_in {n d : Int} (hn : -1152921504606846976 ≤ n ∧ n ≤ 1152921504606846976) (hd : -1152921504606846976 ≤ d ∧ d ≤ 1152921504606846976) (h0 : d ≠ 0) : newP n d = ofR (R n d) := by
  unfold newP; rw [if_neg (by omega)]
theorem fine_bd {n d : Int} {bad : Bool} (h : fineP n d bad = true) : n.natAbs ≤ 1073741824 ∧ d.natAbs ≤ 1073741824 ∧ 1 ≤ d ∧ bad = false := by
  have h := of_decide_eq_true h
  exact ⟨by omega, by omega, by omega, h.1⟩

def two (a b : Bool) (x : Int × Int × Bool) : Int × Int × Bool := if (a && b) = true then x else (0, 0, true)
theorem add_eq {k : Nat} (hk : 4611686018427387920 ≤ k) (a0 a1 : Int) (a2 : Bool) (b0 b1 : Int) (b2 : Bool) :
    frac_Frac_Add.f k a0 a1 a2 b0 b1 b2 = some (two (fineP a0 a1 a2) (fineP b0 b1 b2) (ofR (R a0 a1 + R b0 b1))) := by
  obtain ⟨k, rfl⟩ : ∃ n, k = n + 1 := ⟨k - 1, by omega⟩
  have hw : frac_Frac_Add.j0 (k + 1) true a0 a1 a2 b0 b1 b2 = some (0, 0, true) := by unfold frac_Frac_Add.j0; simp [frac_Wrong.f]
  unfold frac_Frac_Add.f two
  rw [fine_eq (by omega), fine_eq (by omega)]
  simp only [Option.bind_some]
  by_cases ha : fineP a0 a1 a2 = true
  · by_cases hb : fineP b0 b1 b2 = true
    · rw [if_pos ha, hb, ha, if_pos (show (true && true) = true from rfl)]
      obtain ⟨x1, x2, x3, x4⟩ := fine_bd ha
      obtain ⟨y1, y2, y3, y4⟩ := fine_bd hb
      have m1 := mulb x1 y2
      have m2 := mulb y1 x2
      have m3 := mulb x2 y2
      have m4 : 0 < a1 * b1 := Int.mul_pos (by omega) (by omega)
      unfold frac_Frac_Add.j0
      dsimp only
      rw [if_neg (by decide), w64 (n := a0 * b1) (by omega), w64 (n := b0 * a1) (by omega), w64 (n := a1 * b1) (by omega), w64 (n := a0 * b1 + b0 * a1) (by omega)]
      generalize hn : a0 * b1 + b0 * a1 = n at *
      generalize hd : a1 * b1 = d at *
      rw [common_eq (by omega) (by omega) (by omega)]
      simp only [Option.bind_some]
      have g0 : 0 < Int.gcd n d := Int.gcd_pos_of_ne_zero_right n (by omega)
      rw [if_neg (by omega)]
      have e1 : Int.tdiv n (Int.gcd n d : Int) = (R n d).num := by rw [Int.tdiv_eq_ediv_of_dvd (Int.gcd_dvd_left ..), num_pos m4]
      have e2 : Int.tdiv d (Int.gcd n d : Int) = ((R n d).den : Int) := by rw [Int.tdiv_eq_ediv_of_dvd (Int.gcd_dvd_right ..), den_pos' m4]
      have q1 := num_bd (n := n) m4
      have q2 := den_bd (n := n) m4
      have q3 := (R n d).den_pos
      rw [e1, e2, w64 (by omega), w64 (by omega), new_eq (by omega), newP_self]
      simp only [Option.bind_some]
      unfold R
      rw [Rat.divInt_add_divInt _ _ (by omega) (by omega), hn, hd]
    · have hb : fineP b0 b1 b2 = false := by simpa using hb
      rw [if_pos ha, hb, Bool.not_false, hw, Bool.and_false, if_neg (by decide)]
  · have ha' : fineP a0 a1 a2 = false := by simpa using ha
    rw [if_neg ha, hw, ha', Bool.false_and, if_neg (by decide)]
theorem mul_eq {k : Nat} (hk : 4611686018427387920 ≤ k) (a0 a1 : Int) (a2 : Bool) (b0 b1 : Int) (b2 : Bool) :
    frac_Frac_Mul.f k a0 a1 a2 b0 b1 b2 = some (two (fineP a0 a1 a2) (fineP b0 b1 b2) (ofR (R a0 a1 * R b0 b1))) := by
  obtain ⟨k, rfl⟩ : ∃ n, k = n + 1 := ⟨k - 1, by omega⟩
  have hw : frac_Frac_Mul.j0 (k + 1) true a0 a1 a2 b0 b1 b2 = some (0, 0, true) := by unfold frac_Frac_Mul.j0; simp [frac_Wrong.f]
  unfold frac_Frac_Mul.f two
  rw [fine_eq (by omega), fine_eq (by omega)]
  simp only [Option.bind_some]
  by_cases ha : fineP a0 a1 a2 = true
  · by_cases hb : fineP b0 b1 b2 = true
    · rw [if_pos ha, hb, ha, if_pos (show (true && true) = true from rfl)]
      obtain ⟨x1, x2, x3, x4⟩ := fine_bd ha
      obtain ⟨y1, y2, y3, y4⟩ := fine_bd hb
      have m1 := mulb x1 y1
      have m3 := mulb x2 y2
      have m4 : 0 < a1 * b1 := Int.mul_pos (by omega) (by omega)
      unfold frac_Frac_Mul.j0
      dsimp only
      rw [if_neg (by decide), w64 (n := a0 * b0) (by omega), w64 (n := a1 * b1) (by omega), new_eq (by omega), newP_in m1 m3 (by omega)]
      simp only [Option.bind_some]
      unfold R
      rw [Rat.divInt_mul_divInt]
    · have hb : fineP b0 b1 b2 = false := by simpa using hb
      rw [if_pos ha, hb, Bool.not_false, hw, Bool.and_false, if_neg (by decide)]
  · have ha' : fineP a0 a1 a2 = false := by simpa using ha
    rw [if_neg ha, hw, ha', Bool.false_and, if_neg (by decide)]
theorem neg_R {a0 a1 : Int} {a2 : Bool} (ha : fineP a0 a1 a2 = true) : ofR (-(R a0 a1)) = (-a0, a1, false) := by
  obtain ⟨e1, e2, ⟨e3, e4, e5⟩, _⟩ := fine_R ha
  rw [ofR_small ⟨by rw [Rat.neg_num]; omega, by rw [Rat.neg_num]; omega, by rw [Rat.neg_den]; omega⟩, Rat.neg_num, Rat.neg_den, e1, e2]
theorem neg_eq {k : Nat} (hk : 4611686018427387920 ≤ k) (a0 a1 : Int) (a2 : Bool) :
    frac_Frac_Neg.f k a0 a1 a2 = some (if fineP a0 a1 a2 = true then (-a0, a1, false) else (0, 0, true)) := by
  obtain ⟨k, rfl⟩ : ∃ n, k = n + 1 := ⟨k - 1, by omega⟩
  have hw : frac_Frac_Neg.j0 (k + 1) true a0 a1 a2 = some (0, 0, true) := by unfold frac_Frac_Neg.j0; simp [frac_Wrong.f]
  unfold frac_Frac_Neg.f
  rw [fine_eq (by omega)]
  simp only [Option.bind_some]
  by_cases ha : fineP a0 a1 a2 = true
  · rw [if_pos ha, if_pos ha, ha]
    obtain ⟨x1, x2, x3, x4⟩ := fine_bd ha
    unfold frac_Frac_Neg.j0
    dsimp only
    rw [if_neg (by decide), w64 (by omega), new_eq (by omega), newP_in (by omega) (by omega) (by omega)]
    simp only [Option.bind_some]
    rw [← neg_R ha]
    unfold R
    rw [Rat.neg_divInt]
  · rw [if_neg ha, hw, if_neg ha]
theorem fine_neg {a0 a1 : Int} {a2 : Bool} (ha : fineP a0 a1 a2 = true) : fineP (-a0) a1 false = true := by
  have h := of_decide_eq_true ha
  exact decide_eq_true ⟨rfl, by omega, by omega, by omega, by omega, by rw [Int.neg_gcd]; exact h.2.2.2.2.2⟩
theorem fine_wrong : fineP 0 0 true = false := by decide
theorem sub_eq {k : Nat} (hk : 4611686018427387920 ≤ k) (a0 a1 : Int) (a2 : Bool) (b0 b1 : Int) (b2 : Bool) :
    frac_Frac_Sub.f k a0 a1 a2 b0 b1 b2 = some (two (fineP a0 a1 a2) (fineP b0 b1 b2) (ofR (R a0 a1 - R b0 b1))) := by
  unfold frac_Frac_Sub.f
  rw [neg_eq hk]
  simp only [Option.bind_some]
  rw [add_eq hk]
  simp only [Option.bind_some]
  congr 1
  unfold two
  by_cases hb : fineP b0 b1 b2 = true
  · simp only [if_pos hb]
    have e : R a0 a1 + R (-b0) b1 = R a0 a1 - R b0 b1 := by rw [Rat.sub_eq_add_neg]; unfold R; rw [Rat.neg_divInt]
    rw [fine_neg hb, hb, e]
  · have hb' : fineP b0 b1 b2 = false := by simpa using hb
    simp only [if_neg hb]
    rw [hb', fine_wrong]
    simp
end Go.Proofs.Ytbpbeighpaaeaaa.Fr
