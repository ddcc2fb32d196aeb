/- FracSums: what the rounds of its loop look at, as its contract wants it. -/
import Derived.Test.YtbpbeighpaaeaaaFsm
namespace Go.Proofs.Ytbpbeighpaaeaaa.Fr
open Go.RowKit Go.Proofs.YtbpbeighpaaeaaaW.PrintWords Go.Proofs.YtbpbeighpaaeaaaW.PrintLast Go.Proofs.YtbpbeighpaaeaaaW.PrintMore Go.Proofs.Ytbpbeighpaaeaaa.G
theorem sums_hx (a0_0 a0_1 : Int) (a0_2 : Bool) (a1_0 a1_1 : Int) (a1_2 : Bool) : ∀ x0 x1 x2, frac_Frac_Add.f 4611686018427387930 a0_0 a0_1 a0_2 a1_0 a1_1 a1_2 = some (x0, x1, x2) →
    (x2 = true ∨ (x2 = false ∧ fineP x0 x1 x2 = true ∧ coupletref01_Right.f (wrap64 (wrap64 (a0_0 * a1_1) + wrap64 (a1_0 * a0_1))) = some true ∧ coupletref04_Same.f 3000 (wrap64 (wrap64 (a0_0 * a1_1) + wrap64 (a1_0 * a0_1))) (wrap64 (a0_1 * a1_1)) x0 x1 = some true)) := by
  intro x0 x1 x2 h
  rw [add_eq (by omega)] at h
  have h := Option.some.inj h
  by_cases hc : fineP a0_0 a0_1 a0_2 = true ∧ fineP a1_0 a1_1 a1_2 = true
  · obtain ⟨ha, hb⟩ := hc
    rw [ha, hb] at h
    have h : ofR (R a0_0 a0_1 + R a1_0 a1_1) = (x0, x1, x2) := h
    have r := round_add (k := 3000) (by omega) ha hb
    rw [h] at r
    exact r
  · left
    unfold two at h
    rw [if_neg (by simpa using hc)] at h
    injection h with _ h; injection h with _ h; exact h.symm
theorem sums_hy (a0_0 a0_1 : Int) (a0_2 : Bool) (a1_0 a1_1 : Int) (a1_2 : Bool) : ∀ x0 x1 x2, frac_Frac_Sub.f 4611686018427387930 a0_0 a0_1 a0_2 a1_0 a1_1 a1_2 = some (x0, x1, x2) →
    (x2 = true ∨ (x2 = false ∧ fineP x0 x1 x2 = true ∧ coupletref01_Right.f (wrap64 (wrap64 (a0_0 * a1_1) + wrap64 (wrap64 (-a1_0) * a0_1))) = some true ∧ coupletref04_Same.f 3000 (wrap64 (wrap64 (a0_0 * a1_1) + wrap64 (wrap64 (-a1_0) * a0_1))) (wrap64 (a0_1 * a1_1)) x0 x1 = some true)) := by
  intro x0 x1 x2 h
  rw [sub_eq (by omega)] at h
  have h := Option.some.inj h
  by_cases hc : fineP a0_0 a0_1 a0_2 = true ∧ fineP a1_0 a1_1 a1_2 = true
  · obtain ⟨ha, hb⟩ := hc
    rw [ha, hb] at h
    have h : ofR (R a0_0 a0_1 - R a1_0 a1_1) = (x0, x1, x2) := h
    have r := round_sub (k := 3000) (by omega) ha hb
    rw [h] at r
    exact r
  · left
    unfold two at h
    rw [if_neg (by simpa using hc)] at h
    injection h with _ h; injection h with _ h; exact h.symm
end Go.Proofs.Ytbpbeighpaaeaaa.Fr
