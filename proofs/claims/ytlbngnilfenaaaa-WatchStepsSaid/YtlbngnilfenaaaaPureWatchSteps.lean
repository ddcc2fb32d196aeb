/- WatchSteps, of whole numbers alone: Calm and Trip count a stepW; beyond the greatest number it is Safe. -/
import Derived.Test.YtlbngnilfenaaaaStepWatchSteps
namespace Go.Proofs.Ytlbngnilfenaaaa.Pure
open Go.RowKit Go.Proofs.Ytlbngnilfenaaaa.PWatchSteps Go.Proofs.Ytlbngnilfenaaaa.StepWatchSteps

theorem WatchSteps : ∀ (x0 : PWatchSteps.S23) (x1 : PWatchSteps.S29), ((Lit.int .i64 x0.f0).wf = true ∧ (Lit.int .i64 x0.f1).wf = true ∧ (Lit.int .i64 x0.f2).wf = true ∧ (Lit.int .i64 x0.f3).wf = true) →
    ((Lit.int .i64 x1.f0).wf = true ∧ (Lit.int .i64 x1.f1).wf = true) → ∃ k, PWatchSteps.coupletlaw17_WatchSteps.f k x0.f0 x0.f1 x0.f2 x0.f3 x1.f0 x1.f1 = some true := by
  intro ⟨m, l, c, s⟩ ⟨kd, ln⟩ _ _
  refine ⟨12, ?_⟩
  unfold coupletlaw17_WatchSteps.f
  dsimp only
  have aw : coupletlaw17_awake.f 11 = some true := awake_ge 2
  have done : ∀ n0 n1 n2 n3, coupletlaw17_WatchSteps.j0 12 true m l c s n0 n1 n2 n3 = some true := by
    intro n0 n1 n2 n3
    simp only [coupletlaw17_WatchSteps.j0, if_true]
    rw [aw]; rfl
  rw [next_eq 10, right_eq 11, valid_eq]
  simp only [Option.bind_some]
  cases hR : R m l c s with
  | false => rw [if_neg (by decide)]; exact done _ _ _ _
  | true =>
    have hr := R_true hR
    rw [if_pos rfl]
    by_cases hv : m = 1 ∨ m = 2
    · rw [decide_eq_true hv, if_pos rfl]
      have main : (kd = 2 ∨ kd = 3) → coupletlaw17_WatchSteps.j0 12 false m l c s (stepW m l c s kd ln).1 (stepW m l c s kd ln).2.1 (stepW m l c s kd ln).2.2.1 (stepW m l c s kd ln).2.2.2 = some true := by
        intro hk
        have e3 : (stepW m l c s kd ln).2.2.2 = s + 1 := by
          unfold stepW
          rw [hR, if_neg (by simp; omega), if_neg (by omega), if_neg (by omega), if_neg (by omega), if_neg (by omega)]
          repeat' split
          all_goals rfl
        have e0 : ¬ s < 65536 → (stepW m l c s kd ln).1 = 3 := by
          intro h
          unfold stepW
          rw [hR, if_neg (by simp; omega), if_neg (by omega), if_neg (by omega), if_neg (by omega), if_neg (by omega), if_pos (by omega)]
        simp only [coupletlaw17_WatchSteps.j0]
        rw [if_neg (by decide), e3, wrap_one (by omega) (by omega), if_pos rfl, aw]
        by_cases h : s < 65536
        · rw [if_pos h]; rfl
        · rw [if_neg h, if_pos (e0 h)]; rfl
      by_cases h2 : kd = 2
      · rw [if_pos h2]; exact main (Or.inl h2)
      · rw [if_neg h2]
        by_cases h3 : kd = 3
        · rw [bne_eq_false_iff_eq.2 h3]; exact main (Or.inr h3)
        · rw [bne_iff_ne.2 h3]; exact done _ _ _ _
    · rw [decide_eq_false hv, if_neg (by decide)]; exact done _ _ _ _
end Go.Proofs.Ytlbngnilfenaaaa.Pure
