/- WatchLanes, of whole numbers alone: the lane turns just by Begin, by Reset, and where Dual goes to Single. -/
import Derived.Test.YtlbngnilfenaaaaStepWatchLanes
namespace Go.Proofs.Ytlbngnilfenaaaa.Pure
open Go.RowKit Go.Proofs.Ytlbngnilfenaaaa.PWatchLanes Go.Proofs.Ytlbngnilfenaaaa.StepWatchLanes

theorem WatchLanes : ∀ (x0 : PWatchLanes.S23) (x1 : PWatchLanes.S29), ((Lit.int .i64 x0.f0).wf = true ∧ (Lit.int .i64 x0.f1).wf = true ∧ (Lit.int .i64 x0.f2).wf = true ∧ (Lit.int .i64 x0.f3).wf = true) →
    ((Lit.int .i64 x1.f0).wf = true ∧ (Lit.int .i64 x1.f1).wf = true) → ∃ k, PWatchLanes.coupletlaw17_WatchLanes.f k x0.f0 x0.f1 x0.f2 x0.f3 x1.f0 x1.f1 = some true := by
  intro ⟨m, l, c, s⟩ ⟨kd, ln⟩ _ _
  refine ⟨12, ?_⟩
  unfold coupletlaw17_WatchLanes.f
  dsimp only
  have aw : coupletlaw17_awake.f 11 = some true := awake_ge 2
  have done : ∀ n0 n1 n2 n3, coupletlaw17_WatchLanes.j0 12 true m l c s kd ln n0 n1 n2 n3 = some true := by
    intro n0 n1 n2 n3
    simp only [coupletlaw17_WatchLanes.j0, if_true]
    rw [aw]; rfl
  rw [next_eq 10, right_eq 11]
  simp only [Option.bind_some]
  by_cases hl : (stepW m l c s kd ln).2.1 = l
  · rw [if_pos hl]; exact done _ _ _ _
  rw [if_neg hl]
  cases hR : R m l c s with
  | false => exact done _ _ _ _
  | true =>
    have hr := R_true hR
    simp only [coupletlaw17_WatchLanes.j0]
    rw [if_neg (by decide)]
    by_cases h1 : kd = 1
    · rw [if_pos h1, aw]; rfl
    rw [if_neg h1]
    by_cases h5 : kd = 5
    · rw [if_pos h5, aw]; rfl
    rw [if_neg h5]
    have key : m = 1 ∧ (ln = 0 ∨ ln = 1) ∧ stepW m l c s kd ln = (2, 1 - ln, c + 1, s + 1) := by
      unfold stepW at hl ⊢
      rw [hR] at hl ⊢
      by_cases a : kd < 1 ∨ 5 < kd
      · rw [if_pos (by simp; omega)] at hl; exact absurd rfl hl
      rw [if_neg (by simp; omega), if_neg h5, if_neg h1] at hl ⊢
      by_cases b : m ≠ 1 ∧ m ≠ 2
      · rw [if_pos b] at hl; exact absurd rfl hl
      rw [if_neg b] at hl ⊢
      by_cases d : kd = 4
      · rw [if_pos d] at hl; exact absurd rfl hl
      rw [if_neg d] at hl ⊢
      by_cases e : 65536 < s + 1
      · rw [if_pos e] at hl; exact absurd rfl hl
      rw [if_neg e] at hl ⊢
      by_cases f : m = 1 ∧ kd = 3
      · rw [if_pos f] at hl ⊢
        by_cases g : c + 1 < 3
        · rw [if_pos g] at hl; exact absurd rfl hl
        rw [if_neg g] at hl ⊢
        by_cases i : ln = 0 ∨ ln = 1
        · rw [if_pos i]; exact ⟨f.1, i, rfl⟩
        · rw [if_neg i] at hl; exact absurd rfl hl
      rw [if_neg f] at hl ⊢
      by_cases g : m = 1
      · rw [if_pos g] at hl; exact absurd rfl hl
      · rw [if_neg g] at hl; exact absurd rfl hl
    obtain ⟨k1, k2, k3⟩ := key
    rw [k3, if_pos k1, if_pos rfl, wrap_less (by omega) (by omega), if_pos rfl, aw]; rfl
end Go.Proofs.Ytlbngnilfenaaaa.Pure
