/- Plain law of FracRoots. -/
import Derived.Test.YtbpbeighpaaeaaaFta
import Derived.Test.YtbpbeighpaaeaaaGrd
namespace Go.Proofs.Ytbpbeighpaaeaaa.Fr
open Go.RowKit Go.Proofs.YtbpbeighpaaeaaaW.PrintWords Go.Proofs.YtbpbeighpaaeaaaW.PrintLast Go.Proofs.YtbpbeighpaaeaaaW.PrintMore Go.Proofs.Ytbpbeighpaaeaaa.G
set_option linter.unusedVariables false
set_option linter.unusedSimpArgs false

theorem square_at {k : Nat} {n s : Int} (hk : 32800 ≤ k) (hn : 0 ≤ n ∧ n ≤ 1073741824) (hs : Fl n s) : coupletref04_Square.f k n = some (if s * s = n then s else -1) := by
  obtain ⟨s', hs', e⟩ := square_eq hk hn
  obtain rfl := Fl_one hs hs'
  exact e
theorem roots_j4 {k : Nat} (hk : 4611686018427387930 ≤ k) {a0 a1 : Int} {a2 : Bool} {x : Int × Int × Bool} (hx : frac_Frac_Root.f 4611686018427387940 a0 a1 a2 = some x) :
    coupletlaw04_FracRoots.j4 k false a0 a1 a2 x.1 x.2.1 x.2.2 = some true := by
  obtain ⟨k, rfl⟩ : ∃ n, k = n + 2 := ⟨k - 2, by omega⟩
  have h5 : x = (0, 0, true) → coupletlaw04_FracRoots.j5 (k + 1) true a0 a1 a2 x.1 x.2.1 x.2.2 = some true := by
    intro h; rw [h]; unfold coupletlaw04_FracRoots.j5
    dsimp only
    rw [if_pos rfl, awake_eq (by omega)]
    simp [frac_Wrong.f]
  unfold coupletlaw04_FracRoots.j4
  dsimp only
  rw [if_neg (by decide), lawfine_eq (by omega)]
  simp only [Option.bind_some]
  by_cases ha : fineP a0 a1 a2 = true
  · rw [if_pos ha]
    by_cases h0 : a0 < 0
    · rw [if_pos h0]
      have := (Root_eq (k := 4611686018427387940) (by omega) (a0 := a0) (a1 := a1) (a2 := a2)).1 (by omega)
      rw [this] at hx
      exact h5 (Option.some.inj hx).symm
    · rw [if_neg h0]
      obtain ⟨x1, x2, x3, x4⟩ := fine_bd ha
      obtain ⟨s, hs, _⟩ := square_eq (k := 40000) (n := a0) (by omega) (by omega)
      obtain ⟨t, ht, _⟩ := square_eq (k := 40000) (n := a1) (by omega) (by omega)
      rw [(Root_eq (k := 4611686018427387940) (by omega)).2 ha s t hs ht] at hx
      have hx := Option.some.inj hx
      rw [square_at (by omega) (by omega) hs, square_at (by omega) (by omega) ht]
      simp only [Option.bind_some]
      by_cases c1 : s * s = a0
      · rw [if_pos c1, if_neg (by have := hs.1; omega)]
        by_cases c2 : t * t = a1
        · rw [if_pos c2, show decide (t < 0) = false by have := ht.1; simp; omega]
          rw [if_pos ⟨c1, c2⟩] at hx
          subst hx
          have hf := fine_root ha hs ht c1 c2
          obtain ⟨n1, n2⟩ := R_sq hf
          unfold coupletlaw04_FracRoots.j5
          dsimp only
          rw [if_neg (by decide), square_at (by omega) (by omega) hs, square_at (by omega) (by omega) ht, if_pos c1, if_pos c2]
          simp only [Option.bind_some]
          rw [if_pos (by simp), mul_eq (by omega), hf, awake_eq (by omega)]
          have hsm : small (R s t * R s t) := ⟨by rw [n1]; omega, by rw [n1]; omega, by omega⟩
          rw [show two true true (ofR (R s t * R s t)) = (s * s, t * t, false) by unfold two; rw [if_pos (by decide), ofR_small hsm, n1, n2]]
          simp only [Option.bind_some]
          rw [if_pos (by simp [c1, c2, x4])]
        · rw [if_neg c2, show decide ((-1 : Int) < 0) = true by decide]
          exact h5 (by rw [← hx, if_neg (fun h => c2 h.2)])
      · rw [if_neg c1, if_pos (by decide)]
        exact h5 (by rw [← hx, if_neg (fun h => c1 h.1)])
  · rw [if_neg ha]
    have := (Root_eq (k := 4611686018427387940) (by omega) (a0 := a0) (a1 := a1) (a2 := a2)).1 (fun h => ha h.1)
    rw [this] at hx
    exact h5 (Option.some.inj hx).symm
theorem roots_j3 {k : Nat} (hk : 4611686018427387935 ≤ k) {n s a0 a1 : Int} {a2 : Bool} {x : Int × Int × Bool} (hx : frac_Frac_Root.f 4611686018427387940 a0 a1 a2 = some x) (hs : s = if fineP a0 a1 a2 = true then (if a0 < 0 then -1 else if a0 = 0 then 0 else 1) else 0) :
    coupletlaw04_FracRoots.j3 k n s a0 a1 a2 x.1 x.2.1 x.2.2 = some true := by
  obtain ⟨k, rfl⟩ : ∃ n, k = n + 1 := ⟨k - 1, by omega⟩
  unfold coupletlaw04_FracRoots.j3
  dsimp only
  simp only [frac_Frac_Of.f]
  rw [new_eq (by omega), sign_eq (by omega), fine_eq (by omega), lawfine_eq (by omega)]
  simp only [Option.bind_some]
  rw [← hs, if_pos rfl, if_neg (by simp)]
  have h4 := roots_j4 (k := k) (by omega) hx
  have hR : (R n 1).num = n ∧ ((R n 1).den : Int) = 1 := by
    rw [num_pos (by omega), den_pos' (by omega), Int.gcd_one]; simp
  simp only [coupletlaw04_small.f]
  by_cases c1 : n ≥ -1073741824
  · rw [if_pos c1]
    simp only [Option.bind_some]
    by_cases c2 : n ≤ 1073741824
    · rw [if_pos (decide_eq_true c2), newP_in (by omega) (by omega) (by omega), ofR_small ⟨by omega, by omega, by omega⟩, hR.1, hR.2]
      rw [if_neg (by simp)]
      rw [if_pos (decide_eq_true c2)]
      exact h4
    · rw [if_neg (by simpa using c2), if_neg (by simpa using c2)]
      have hw : newP n 1 = (0, 0, true) := by
        unfold newP; split
        · rfl
        · exact ofR_wrong (fun h => by have := h.1; omega)
      rw [hw]; exact h4
  · rw [if_neg c1]
    simp only [Option.bind_some]
    rw [if_neg (by decide), if_neg (by decide)]
    have hw : newP n 1 = (0, 0, true) := by
      unfold newP; split
      · rfl
      · exact ofR_wrong (fun h => by have := h.2.1; omega)
    rw [hw]; exact h4
theorem fracRoots (a0 a1 : Int) (a2 : Bool) (n : Int) : coupletlaw04_FracRoots.f 4611686018427387940 a0 a1 a2 n = some true := by
  obtain ⟨x, hx⟩ : ∃ x, frac_Frac_Root.f 4611686018427387940 a0 a1 a2 = some x := by
    by_cases h : fineP a0 a1 a2 = true ∧ 0 ≤ a0
    · obtain ⟨x1, x2, x3, x4⟩ := fine_bd h.1
      obtain ⟨s, hs, _⟩ := square_eq (k := 40000) (n := a0) (by omega) (by omega)
      obtain ⟨t, ht, _⟩ := square_eq (k := 40000) (n := a1) (by omega) (by omega)
      exact ⟨_, (Root_eq (k := 4611686018427387940) (by omega)).2 h.1 s t hs ht⟩
    · exact ⟨_, (Root_eq (k := 4611686018427387940) (by omega)).1 h⟩
  obtain ⟨k, hk⟩ : ∃ k, k + 3 = 4611686018427387940 := ⟨4611686018427387937, rfl⟩
  have h3 := fun s hs => roots_j3 (k := k) (n := n) (s := s) (by omega) hx hs
  have h2 : ∀ s b, s = (if fineP a0 a1 a2 = true ∧ a0 < 0 then -1 else 0) → b = decide (fineP a0 a1 a2 = true ∧ a0 > 0) → coupletlaw04_FracRoots.j2 (k + 1) n s b a0 a1 a2 x.1 x.2.1 x.2.2 = some true := by
    intro s b hs hb
    unfold coupletlaw04_FracRoots.j2
    dsimp only
    by_cases ha : fineP a0 a1 a2 = true
    · simp only [ha, true_and] at hs hb h3
      by_cases c : a0 > 0
      · rw [hb, if_pos (decide_eq_true c)]
        exact h3 1 (by simp; omega)
      · rw [hb, if_neg (by simpa using c)]
        exact h3 s (by rw [hs]; simp; omega)
    · have ha' : fineP a0 a1 a2 = false := by simpa using ha
      simp only [ha', Bool.false_eq_true, false_and, if_false, decide_false] at hs hb h3
      rw [hb, if_neg (by decide)]
      exact h3 s hs
  have h1 : ∀ s, s = (if fineP a0 a1 a2 = true ∧ a0 < 0 then -1 else 0) → coupletlaw04_FracRoots.j1 (k + 2) n s a0 a1 a2 x.1 x.2.1 x.2.2 = some true := by
    intro s hs
    unfold coupletlaw04_FracRoots.j1
    dsimp only
    rw [lawfine_eq (by omega)]
    simp only [Option.bind_some]
    by_cases ha : fineP a0 a1 a2 = true
    · rw [if_pos ha]; exact h2 s _ hs (by simp [ha])
    · rw [if_neg ha]; exact h2 s _ hs (by simp [ha])
  unfold coupletlaw04_FracRoots.f
  rw [hx, lawfine_eq (by omega)]
  simp only [Option.bind_some]
  rw [← hk]
  unfold coupletlaw04_FracRoots.j0
  dsimp only
  by_cases ha : fineP a0 a1 a2 = true
  · rw [if_pos ha]
    by_cases c : a0 < 0
    · rw [if_pos (decide_eq_true c)]; exact h1 (-1) (by rw [if_pos ⟨ha, c⟩])
    · rw [if_neg (by simpa using c)]; exact h1 0 (by rw [if_neg (fun h => c h.2)])
  · rw [if_neg ha, if_neg (by decide)]
    exact h1 0 (by rw [if_neg (fun h => ha h.1)])
end Go.Proofs.Ytbpbeighpaaeaaa.Fr
