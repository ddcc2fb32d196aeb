/- WatchSafe, of whole numbers and lists alone: out of Safe, and out of Idle, nothing but Begin and Reset makes anything. -/
import Derived.Test.YtlbngnilfenaaaaStepWatchSafe
namespace Go.Proofs.Ytlbngnilfenaaaa.Pure
open Go.RowKit Go.Proofs.Ytlbngnilfenaaaa.PWatchSafe Go.Proofs.Ytlbngnilfenaaaa.StepWatchSafe

/-- The watches behind each of the events. -/
def runL (m l c s : Int) : List S29 → List S23
  | [] => []
  | e :: r => ⟨(stepW m l c s e.f0 e.f1).1, (stepW m l c s e.f0 e.f1).2.1, (stepW m l c s e.f0 e.f1).2.2.1, (stepW m l c s e.f0 e.f1).2.2.2⟩ ::
      runL (stepW m l c s e.f0 e.f1).1 (stepW m l c s e.f0 e.f1).2.1 (stepW m l c s e.f0 e.f1).2.2.1 (stepW m l c s e.f0 e.f1).2.2.2 r
theorem runL_length (L : List S29) : ∀ m l c s, (runL m l c s L).length = L.length := by
  induction L with
  | nil => intro m l c s; rfl
  | cons e r ih => intro m l c s; simp only [runL, List.length_cons, ih]

theorem wrap_next {i : Nat} (h : i ≤ 300) : wrap64 ((i : Int) + 1) = ((i + 1 : Nat) : Int) := by unfold wrap64; omega

theorem run_l0 (L : List S29) (hL : L.length ≤ 300) : ∀ (d i k : Nat) (acc : List S23) (m l c s : Int), i + d = L.length → d + 3 ≤ k → acc.length = i →
    watch_Run.l0 k acc L (L.length : Int) (i : Int) m l c s = some (acc ++ runL m l c s (L.drop i)) := by
  intro d
  induction d with
  | zero =>
    intro i k acc m l c s hi hk _
    obtain ⟨k, rfl⟩ : ∃ q, k = q + 1 := ⟨k - 1, by omega⟩
    simp only [watch_Run.l0]
    rw [if_neg (by omega), List.drop_eq_nil_of_le (by omega)]
    simp [runL]
  | succ d ih =>
    intro i k acc m l c s hi hk ha
    obtain ⟨k, rfl⟩ : ∃ q, k = q + 1 := ⟨k - 1, by omega⟩
    have hlt : i < L.length := by omega
    have hrd : rd_T29 L (i : Int) = L[i] := by
      unfold rd_T29
      rw [Int.toNat_natCast, List.getD_eq_getElem?_getD, List.getElem?_eq_getElem hlt]
      rfl
    simp only [watch_Run.l0]
    rw [if_pos (by omega), if_pos (by omega), if_pos (by omega), hrd, next_ge (by omega)]
    simp only [Option.bind_some]
    rw [if_pos (by omega), wrap_next (by omega), ih (i + 1) k _ _ _ _ _ (by omega) (by omega) (by simp [ha]), List.drop_eq_getElem_cons hlt]
    simp [runL]

/-- Nothing but Begin and Reset leads out. -/
theorem stays {m l c s kd ln : Int} (hm : m = 3 ∨ m = 0) (h1 : kd ≠ 1) (h5 : kd ≠ 5) : stepW m l c s kd ln = (m, l, c, s) := by
  unfold stepW
  by_cases a : R m l c s = false ∨ kd < 1 ∨ 5 < kd
  · rw [if_pos a]
  · rw [if_neg a, if_neg h5, if_neg h1, if_pos (by omega)]
theorem runL_stays {m l c s : Int} (hm : m = 3 ∨ m = 0) : ∀ (L : List S29) (i : Nat), i < L.length → (∀ j, j ≤ i → (L.getD j z29).f0 ≠ 1 ∧ (L.getD j z29).f0 ≠ 5) → (runL m l c s L).getD i z23 = ⟨m, l, c, s⟩
  | [], i, h, _ => by simp at h
  | e :: r, i, h, hk => by
    have h0 := hk 0 (by omega)
    have e0 : stepW m l c s e.f0 e.f1 = (m, l, c, s) := stays hm h0.1 h0.2
    simp only [runL, e0]
    cases i with
    | zero => rfl
    | succ i =>
      simp only [List.getD_cons_succ]
      exact runL_stays hm r i (by simpa using h) (fun j hj => hk (j + 1) (by omega))

theorem safe_l0 (L : List S29) (hL : L.length ≤ 300) {m l c s : Int} (hm : m = 3 ∨ m = 0) : ∀ (d i k : Nat), i + d = L.length → 2 * d + 20 ≤ k → (∀ j, j < i → (L.getD j z29).f0 ≠ 1 ∧ (L.getD j z29).f0 ≠ 5) →
    coupletlaw17_WatchSafe.l0 k L (runL m l c s L) (L.length : Int) (i : Int) m l c s = some true := by
  intro d
  induction d with
  | zero =>
    intro i k hi hk _
    obtain ⟨k, rfl⟩ : ∃ q, k = q + 1 := ⟨k - 1, by omega⟩
    simp only [coupletlaw17_WatchSafe.l0]
    rw [if_neg (by omega), awake_of (by omega)]; rfl
  | succ d ih =>
    intro i k hi hk hj
    obtain ⟨k, hk', rfl⟩ : ∃ q, 2 * d + 20 ≤ q ∧ k = q + 1 + 1 := ⟨k - 2, by omega, by omega⟩
    have e1 : (rd_T29 L (i : Int)) = L.getD i z29 := by unfold rd_T29; rw [Int.toNat_natCast]
    have e2 : (rd_T23 (runL m l c s L) (i : Int)) = (runL m l c s L).getD i z23 := by unfold rd_T23; rw [Int.toNat_natCast]
    simp only [coupletlaw17_WatchSafe.l0]
    rw [if_pos (by omega), if_pos (by omega), if_pos (by rw [runL_length]; omega), if_pos (by omega), e1, e2]
    by_cases h1 : (L.getD i z29).f0 = 1
    · rw [if_pos h1]
      simp only [coupletlaw17_WatchSafe.j2, if_true]
      rw [awake_of (by omega)]; rfl
    rw [if_neg h1]
    by_cases h5 : (L.getD i z29).f0 = 5
    · rw [beq_iff_eq.2 h5]
      simp only [coupletlaw17_WatchSafe.j2, if_true]
      rw [awake_of (by omega)]; rfl
    rw [beq_eq_false_iff_ne.2 h5]
    have hall : ∀ j, j ≤ i → (L.getD j z29).f0 ≠ 1 ∧ (L.getD j z29).f0 ≠ 5 := by
      intro j hji
      by_cases e : j = i
      · subst e; exact ⟨h1, h5⟩
      · exact hj j (by omega)
    rw [runL_stays hm L i (by omega) hall]
    simp only [coupletlaw17_WatchSafe.j2]
    rw [if_neg (by decide), if_neg (by simp), wrap_next (by omega)]
    exact ih (i + 1) k (by omega) (by omega) (fun j hji => hall j (by omega))

theorem WatchSafe : ∀ (x0 : PWatchSafe.S23) (l1 : List (PWatchSafe.S29)), ((Lit.int .i64 x0.f0).wf = true ∧ (Lit.int .i64 x0.f1).wf = true ∧ (Lit.int .i64 x0.f2).wf = true ∧ (Lit.int .i64 x0.f3).wf = true) →
    (∀ y ∈ l1, (Lit.int .i64 y.f0).wf = true ∧ (Lit.int .i64 y.f1).wf = true) → ∃ k, PWatchSafe.coupletlaw17_WatchSafe.f k x0.f0 x0.f1 x0.f2 x0.f3 l1 = some true := by
  intro ⟨m, l, c, s⟩ L _ _
  refine ⟨1000, ?_⟩
  have done : coupletlaw17_WatchSafe.j0 1000 L true m l c s = some true := by
    simp only [coupletlaw17_WatchSafe.j0, if_true]
    rw [awake_of (by omega)]; rfl
  unfold coupletlaw17_WatchSafe.f
  dsimp only
  by_cases hL : (L.length : Int) > 300
  · rw [if_pos hL]; exact done
  rw [if_neg hL]
  have main : (m = 3 ∨ m = 0) → coupletlaw17_WatchSafe.j0 1000 L false m l c s = some true := by
    intro hm
    simp only [coupletlaw17_WatchSafe.j0]
    rw [if_neg (by decide)]
    unfold watch_Run.f
    have hr := run_l0 L (by omega) L.length 0 999 [] m l c s (by omega) (by omega) rfl
    rw [show ((0 : Nat) : Int) = 0 from rfl] at hr
    rw [hr]
    simp only [Option.bind_some, List.nil_append, List.drop_zero]
    rw [runL_length]
    exact safe_l0 L (by omega) hm L.length 0 999 (by omega) (by omega) (fun j hj => by omega)
  by_cases h3 : m = 3
  · rw [if_pos h3]; exact main (Or.inl h3)
  rw [if_neg h3]
  by_cases h0 : m = 0
  · rw [bne_eq_false_iff_eq.2 h0]; exact main (Or.inr h0)
  · rw [bne_iff_ne.2 h0]; exact done
end Go.Proofs.Ytlbngnilfenaaaa.Pure
