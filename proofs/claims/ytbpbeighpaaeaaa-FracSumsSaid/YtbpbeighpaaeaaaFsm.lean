/- Plain law of FracSums: what the law tells outside its loop (fracSums), and what each round of the loop looks at (round_add, round_sub). -/
import Derived.Test.YtbpbeighpaaeaaaFs
import Derived.Test.YtbpbeighpaaeaaaFm
import Derived.Test.YtbpbeighpaaeaaaGsmd
namespace Go.Proofs.Ytbpbeighpaaeaaa.Fr
open Go.RowKit Go.Proofs.YtbpbeighpaaeaaaW.PrintWords Go.Proofs.YtbpbeighpaaeaaaW.PrintLast Go.Proofs.YtbpbeighpaaeaaaW.PrintMore Go.Proofs.Ytbpbeighpaaeaaa.G
set_option linter.unusedVariables false
set_option linter.unusedSimpArgs false

theorem R_crossS {n d : Int} (hd : d ≠ 0) : n * ((R n d).den : Int) = (R n d).num * d := by
  have h : Rat.divInt n d = Rat.divInt (R n d).num (R n d).den := (R_self (R n d)).symm
  have := (R n d).den_pos
  exact (Rat.divInt_eq_divInt_iff hd (by omega)).mp h
/-- What a result that is not Bad is, by its parts. -/
theorem ofR_good {k : Nat} (hk : 2000 ≤ k) {n d : Int} (hn : -4611686018427387903 ≤ n ∧ n ≤ 4611686018427387903) (hd : 0 < d ∧ d ≤ 4611686018427387904) :
    (ofR (R n d)).2.2 = true ∨ ((ofR (R n d)).2.2 = false ∧ fineP (ofR (R n d)).1 (ofR (R n d)).2.1 (ofR (R n d)).2.2 = true ∧ coupletref01_Right.f n = some true ∧ coupletref04_Same.f k n d (ofR (R n d)).1 (ofR (R n d)).2.1 = some true) := by
  by_cases h : small (R n d)
  · right
    rw [ofR_small h]
    have hden := (R n d).den_pos
    refine ⟨rfl, fine_of h, ?_, ?_⟩
    · unfold coupletref01_Right.f; rw [if_pos (by omega), decide_eq_true (by omega)]
    · obtain ⟨b1, b2, b3⟩ := h
      dsimp only
      rw [same_eq hk (by omega) (by omega) hd (by omega), decide_eq_true (R_crossS (by omega))]
  · left; rw [ofR_wrong h]
theorem sum_R {a0 a1 b0 b1 : Int} (ha : a1 ≠ 0) (hb : b1 ≠ 0) : R a0 a1 + R b0 b1 = R (a0 * b1 + b0 * a1) (a1 * b1) := by
  unfold R; rw [Rat.divInt_add_divInt _ _ ha hb]
theorem dif_R {a0 a1 b0 b1 : Int} (ha : a1 ≠ 0) (hb : b1 ≠ 0) : R a0 a1 - R b0 b1 = R (a0 * b1 - b0 * a1) (a1 * b1) := by
  unfold R; rw [Rat.divInt_sub_divInt _ _ ha hb]
theorem round_add {k : Nat} (hk : 2000 ≤ k) {a0 a1 b0 b1 : Int} {a2 b2 : Bool} (ha : fineP a0 a1 a2 = true) (hb : fineP b0 b1 b2 = true) :
    (ofR (R a0 a1 + R b0 b1)).2.2 = true ∨ ((ofR (R a0 a1 + R b0 b1)).2.2 = false ∧ fineP (ofR (R a0 a1 + R b0 b1)).1 (ofR (R a0 a1 + R b0 b1)).2.1 (ofR (R a0 a1 + R b0 b1)).2.2 = true ∧
      coupletref01_Right.f (wrap64 (wrap64 (a0 * b1) + wrap64 (b0 * a1))) = some true ∧ coupletref04_Same.f k (wrap64 (wrap64 (a0 * b1) + wrap64 (b0 * a1))) (wrap64 (a1 * b1)) (ofR (R a0 a1 + R b0 b1)).1 (ofR (R a0 a1 + R b0 b1)).2.1 = some true) := by
  obtain ⟨x1, x2, x3, x4⟩ := fine_bd ha
  obtain ⟨y1, y2, y3, y4⟩ := fine_bd hb
  have m1 := mulb x1 y2
  have m2 := mulb y1 x2
  have m3 := mulb x2 y2
  have m4 : 0 < a1 * b1 := Int.mul_pos (by omega) (by omega)
  rw [sum_R (by omega) (by omega), w64 (n := a0 * b1) (by omega), w64 (n := b0 * a1) (by omega), w64 (n := a1 * b1) (by omega), w64 (n := a0 * b1 + b0 * a1) (by omega)]
  exact ofR_good hk (by omega) (by omega)
theorem round_sub {k : Nat} (hk : 2000 ≤ k) {a0 a1 b0 b1 : Int} {a2 b2 : Bool} (ha : fineP a0 a1 a2 = true) (hb : fineP b0 b1 b2 = true) :
    (ofR (R a0 a1 - R b0 b1)).2.2 = true ∨ ((ofR (R a0 a1 - R b0 b1)).2.2 = false ∧ fineP (ofR (R a0 a1 - R b0 b1)).1 (ofR (R a0 a1 - R b0 b1)).2.1 (ofR (R a0 a1 - R b0 b1)).2.2 = true ∧
      coupletref01_Right.f (wrap64 (wrap64 (a0 * b1) + wrap64 (wrap64 (-b0) * a1))) = some true ∧ coupletref04_Same.f k (wrap64 (wrap64 (a0 * b1) + wrap64 (wrap64 (-b0) * a1))) (wrap64 (a1 * b1)) (ofR (R a0 a1 - R b0 b1)).1 (ofR (R a0 a1 - R b0 b1)).2.1 = some true) := by
  obtain ⟨x1, x2, x3, x4⟩ := fine_bd ha
  obtain ⟨y1, y2, y3, y4⟩ := fine_bd hb
  have m1 := mulb x1 y2
  have m2 := mulb y1 x2
  have m3 := mulb x2 y2
  have m4 : 0 < a1 * b1 := Int.mul_pos (by omega) (by omega)
  have e : -b0 * a1 = -(b0 * a1) := Int.neg_mul ..
  rw [dif_R (by omega) (by omega), w64 (n := -b0) (by omega), e, w64 (n := a0 * b1) (by omega), w64 (n := -(b0 * a1)) (by omega), w64 (n := a1 * b1) (by omega), w64 (n := a0 * b1 + -(b0 * a1)) (by omega), ← Int.sub_eq_add_neg]
  exact ofR_good hk (by omega) (by omega)
theorem sums_j1 {k : Nat} (hk : 4611686018427387920 ≤ k) {a0 a1 b0 b1 : Int} {a2 b2 : Bool} (ha : fineP a0 a1 a2 = true) (hb : fineP b0 b1 b2 = true) :
    coupletlaw04_FracSums.j1 k false a0 a1 a2 b0 b1 b2 (ofR (R a0 a1 + R b0 b1)).1 (ofR (R a0 a1 + R b0 b1)).2.1 (ofR (R a0 a1 + R b0 b1)).2.2 (ofR (R a0 a1 - R b0 b1)).1 (ofR (R a0 a1 - R b0 b1)).2.1 (ofR (R a0 a1 - R b0 b1)).2.2 = some true := by
  obtain ⟨k, rfl⟩ : ∃ n, k = n + 1 := ⟨k - 1, by omega⟩
  obtain ⟨x1, x2, x3, x4⟩ := fine_bd ha
  obtain ⟨y1, y2, y3, y4⟩ := fine_bd hb
  unfold coupletlaw04_FracSums.j1
  dsimp only
  rw [if_neg (by decide), awake_eq (by omega), new_eq (by omega), new_eq (by omega)]
  simp only [Option.bind_some]
  by_cases h : a1 = b1
  · subst h
    have e1 : R a0 a1 + R b0 a1 = R (a0 + b0) a1 := by
      rw [sum_R (by omega) (by omega), ← Int.add_mul]; unfold R; rw [Rat.divInt_mul_right (by omega)]
    have e2 : R a0 a1 - R b0 a1 = R (a0 - b0) a1 := by
      rw [dif_R (by omega) (by omega), ← Int.sub_mul]; unfold R; rw [Rat.divInt_mul_right (by omega)]
    rw [if_pos rfl, w64 (n := a0 + b0) (by omega), w64 (n := a0 - b0) (by omega), newP_in (by omega) (by omega) (by omega), newP_in (by omega) (by omega) (by omega), e1, e2]
    rw [if_pos (by simp), if_pos (by simp)]
  · rw [if_neg h]
theorem fracSums {k : Nat} (hk : 4611686018427387930 ≤ k) (a0 a1 : Int) (a2 : Bool) (b0 b1 : Int) (b2 : Bool) : coupletlaw04_FracSums.f k a0 a1 a2 b0 b1 b2 = some true := by
  obtain ⟨k, rfl⟩ : ∃ n, k = n + 1 := ⟨k - 1, by omega⟩
  unfold coupletlaw04_FracSums.f
  rw [add_eq (by omega), sub_eq (by omega), mul_eq (by omega), lawfine_eq (by omega), lawfine_eq (by omega)]
  simp only [Option.bind_some]
  have hw : (fineP a0 a1 a2 = false ∨ fineP b0 b1 b2 = false) → ∀ x, two (fineP a0 a1 a2) (fineP b0 b1 b2) x = (0, 0, true) := by
    intro h x
    rcases h with h | h <;> simp [two, h]
  have h0 : coupletlaw04_FracSums.j0 (k + 1) true a0 a1 a2 b0 b1 b2 0 0 true 0 0 true 0 0 true = some true := by
    unfold coupletlaw04_FracSums.j0
    dsimp only
    rw [if_pos rfl, if_pos rfl, if_pos rfl, if_pos rfl, awake_eq (by omega)]; rfl
  by_cases hc : fineP a0 a1 a2 = true ∧ fineP b0 b1 b2 = true
  · obtain ⟨ha, hb⟩ := hc
    have h1 := of_decide_eq_true ha
    have h2 := of_decide_eq_true hb
    rw [if_neg (by omega), if_neg (by omega), if_neg (by omega), if_neg (by omega), if_neg (by omega), if_neg (by omega), if_neg (by omega), if_neg (by omega), if_pos ha, ha, hb]
    have tt : ∀ x, two true true x = x := fun x => rfl
    rw [tt, tt, tt]
    obtain ⟨x1, x2, x3, x4⟩ := fine_bd ha
    obtain ⟨y1, y2, y3, y4⟩ := fine_bd hb
    have m1 := mulb x1 y1
    have m3 := mulb x2 y2
    have m4 : 0 < a1 * b1 := Int.mul_pos (by omega) (by omega)
    have hj := sums_j1 (k := k) (by omega) ha hb
    unfold coupletlaw04_FracSums.j0
    dsimp only
    rw [if_neg (by decide), w64 (n := a0 * b0) (by omega), w64 (n := a1 * b1) (by omega), new_eq (by omega), newP_in (by omega) (by omega) (by omega), lawfine_eq (by omega)]
    have e : R a0 a1 * R b0 b1 = R (a0 * b0) (a1 * b1) := by unfold R; rw [Rat.divInt_mul_divInt]
    rw [e]
    simp only [Option.bind_some, bne_self_eq_false]
    rcases ofR_good (k := k) (by omega) (n := a0 * b0) (d := a1 * b1) (by omega) (by omega) with h | ⟨h3, h4, h5, h6⟩
    · rw [if_pos h]; exact hj
    · rw [if_neg (by rw [h3]; decide), if_pos h4, h6]
      simp only [Option.bind_some, if_true]
      exact hj
  · have hc' : fineP a0 a1 a2 = false ∨ fineP b0 b1 b2 = false := by
      by_cases ha : fineP a0 a1 a2 = true
      · right; simpa using fun hb => hc ⟨ha, hb⟩
      · left; simpa using ha
    rw [hw hc', hw hc', hw hc']
    dsimp only
    by_cases ha : fineP a0 a1 a2 = true
    · have hb : fineP b0 b1 b2 = false := by simpa using fun hb => hc ⟨ha, hb⟩
      rw [if_pos ha, hb]
      repeat' split
      all_goals exact h0
    · rw [if_neg ha]
      repeat' split
      all_goals exact h0
end Go.Proofs.Ytbpbeighpaaeaaa.Fr
