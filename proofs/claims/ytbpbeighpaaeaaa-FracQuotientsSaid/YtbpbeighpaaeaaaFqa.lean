/- Plain law of FracQuotients. -/
import Derived.Test.YtbpbeighpaaeaaaFs
import Derived.Test.YtbpbeighpaaeaaaFm
import Derived.Test.YtbpbeighpaaeaaaGqd
namespace Go.Proofs.Ytbpbeighpaaeaaa.Fr
open Go.RowKit Go.Proofs.YtbpbeighpaaeaaaW.PrintWords Go.Proofs.YtbpbeighpaaeaaaW.PrintLast Go.Proofs.YtbpbeighpaaeaaaW.PrintMore Go.Proofs.Ytbpbeighpaaeaaa.G
set_option linter.unusedVariables false
set_option linter.unusedSimpArgs false

theorem R_cross {n d : Int} (hd : d ≠ 0) : n * ((R n d).den : Int) = (R n d).num * d := by
  have h : Rat.divInt n d = Rat.divInt (R n d).num (R n d).den := (R_self (R n d)).symm
  have := (R n d).den_pos
  exact (Rat.divInt_eq_divInt_iff hd (by omega)).mp h
theorem quot_j1 {k : Nat} (hk : 4611686018427387930 ≤ k) {n d a0 a1 : Int} {a2 : Bool} (ha : fineP a0 a1 a2 = true) (hn : -1152921504606846976 ≤ n ∧ n ≤ 1152921504606846976) (hd : 0 < d ∧ d ≤ 1152921504606846976) :
    coupletlaw04_FracQuotients.j1 k n d a0 a1 a2 (ofR (R n d)).1 (ofR (R n d)).2.1 (ofR (R n d)).2.2 = some true := by
  obtain ⟨k, rfl⟩ : ∃ n, k = n + 1 := ⟨k - 1, by omega⟩
  obtain ⟨x1, x2, x3, x4⟩ := fine_bd ha
  unfold coupletlaw04_FracQuotients.j1
  dsimp only
  rw [neg_eq (by omega), new_eq (by omega), newP_in hn (by omega) (by omega), awake_eq (by omega), ha, w64 (n := -a0) (by omega)]
  simp only [Option.bind_some, if_true, beq_self_eq_true, Bool.and_self, Bool.not_false]
  by_cases h : small (R n d)
  · rw [ofR_small h]
    have hden := (R n d).den_pos
    obtain ⟨b1, b2, b3⟩ := h
    dsimp only
    rw [if_neg (by decide), same_eq (by omega) (by omega) (by omega) (by omega) (by omega)]
    simp only [Option.bind_some]
    rw [if_pos (decide_eq_true (R_cross (by omega)))]
  · rw [ofR_wrong h]
    dsimp only
    rw [if_pos rfl]
theorem fracQuotients {k : Nat} (hk : 4611686018427387940 ≤ k) (a0 a1 : Int) (a2 : Bool) (b0 b1 : Int) (b2 : Bool) : coupletlaw04_FracQuotients.f k a0 a1 a2 b0 b1 b2 = some true := by
  obtain ⟨k, rfl⟩ : ∃ n, k = n + 1 := ⟨k - 1, by omega⟩
  unfold coupletlaw04_FracQuotients.f
  rw [div_eq (by omega), lawfine_eq (by omega), lawfine_eq (by omega)]
  simp only [Option.bind_some]
  obtain ⟨x, hx⟩ : ∃ x, x = two (fineP a0 a1 a2) (fineP b0 b1 b2) (newP (a0 * b1) (a1 * b0)) := ⟨_, rfl⟩
  rw [← hx]
  have hw : x = (0, 0, true) → coupletlaw04_FracQuotients.j0 (k + 1) true a0 a1 a2 b0 b1 b2 x.1 x.2.1 x.2.2 = some true := by
    intro h; rw [h]; unfold coupletlaw04_FracQuotients.j0
    dsimp only
    rw [if_pos rfl, if_pos rfl, awake_eq (by omega)]; rfl
  by_cases ha : fineP a0 a1 a2 = true
  · by_cases hb : fineP b0 b1 b2 = true
    · have h1 := of_decide_eq_true ha
      have h2 := of_decide_eq_true hb
      rw [if_neg (by omega), if_neg (by omega), if_neg (by omega), if_neg (by omega), if_neg (by omega), if_neg (by omega), if_neg (by omega), if_neg (by omega), if_pos ha, if_pos hb]
      rw [ha, hb] at hx
      have hx : x = newP (a0 * b1) (a1 * b0) := hx
      by_cases h0 : b0 = 0
      · rw [show (b0 == 0) = true by simp [h0]]
        exact hw (by rw [hx, h0, Int.mul_zero]; unfold newP; rw [if_pos (by omega)])
      · rw [show (b0 == 0) = false by simp [h0]]
        obtain ⟨x1, x2, x3, x4⟩ := fine_bd ha
        obtain ⟨y1, y2, y3, y4⟩ := fine_bd hb
        have m1 := mulb x1 y2
        have m2 := mulb x2 y1
        have m3 : a1 * b0 ≠ 0 := Int.mul_ne_zero (by omega) h0
        unfold coupletlaw04_FracQuotients.j0
        dsimp only
        rw [if_neg (by decide), w64 (n := a1 * b0) (by omega), w64 (n := a0 * b1) (by omega), hx, newP_in m1 m2 m3]
        generalize a1 * b0 = d at *
        generalize a0 * b1 = n at *
        by_cases hd : d < 0
        · rw [if_pos hd, w64 (n := -n) (by omega), w64 (n := -d) (by omega), show R n d = R (-n) (-d) by unfold R; rw [Rat.neg_divInt_neg]]
          exact quot_j1 (by omega) ha (by omega) (by omega)
        · rw [if_neg hd]
          exact quot_j1 (by omega) ha (by omega) (by omega)
    · have hb' : fineP b0 b1 b2 = false := by simpa using hb
      have hxw : x = (0, 0, true) := by rw [hx, hb']; simp [two]
      have hw := hw hxw
      repeat' split
      all_goals first | exact hw | contradiction
  · have ha' : fineP a0 a1 a2 = false := by simpa using ha
    have hxw : x = (0, 0, true) := by rw [hx, ha']; simp [two]
    have hw := hw hxw
    repeat' split
    all_goals first | exact hw | contradiction

end Go.Proofs.Ytbpbeighpaaeaaa.Fr
