/- Plain law of FracNew. -/
import Derived.Test.YtbpbeighpaaeaaaFs
import Derived.Test.YtbpbeighpaaeaaaFm
import Derived.Test.YtbpbeighpaaeaaaGx8
namespace Go.Proofs.Ytbpbeighpaaeaaa.Fr
open Go.RowKit Go.Proofs.YtbpbeighpaaeaaaW.PrintWords Go.Proofs.YtbpbeighpaaeaaaW.PrintLast Go.Proofs.YtbpbeighpaaeaaaW.PrintMore Go.Proofs.Ytbpbeighpaaeaaa.G
set_option linter.unusedVariables false
set_option linter.unusedSimpArgs false

theorem R_cross {n d : Int} (hd : d ≠ 0) : n * ((R n d).den : Int) = (R n d).num * d := by
  have h : Rat.divInt n d = Rat.divInt (R n d).num (R n d).den := (R_self (R n d)).symm
  have := (R n d).den_pos
  exact (Rat.divInt_eq_divInt_iff hd (by omega)).mp h
theorem new_loop {n d num den : Int} {g : Nat} (hg0 : g ≠ 0) (e1 : wrap64 (Int.tdiv n (g : Int)) = num) (e2 : wrap64 (Int.tdiv d (g : Int)) = den) (hb : ¬ (-1073741824 ≤ num ∧ num ≤ 1073741824 ∧ -1073741824 ≤ den ∧ den ≤ 1073741824)) :
    ∀ (k x y : Nat), y + 100 < k → Nat.gcd x y = g → coupletlaw04_FracNew.l0 k n d (x : Int) (y : Int) 0 0 true = some true := by
  intro k
  induction k with
  | zero => intro x y h; omega
  | succ k ih =>
    intro x y h hg
    unfold coupletlaw04_FracNew.l0
    by_cases hy : y = 0
    · subst hy
      rw [if_neg (by omega)]
      have hx : x = g := by simpa using hg
      subst hx
      rw [e1, e2, awake_eq (by omega)]
      simp only [frac_Wrong.f, Option.bind_some, coupletlaw04_small.f]
      rw [if_pos (by decide), if_neg (by omega)]
      by_cases h1 : num ≥ -1073741824
      · rw [if_pos h1]
        simp only [Option.bind_some]
        by_cases h2 : num ≤ 1073741824
        · rw [if_pos (decide_eq_true h2)]
          by_cases h3 : den ≥ -1073741824
          · rw [if_pos h3]
            simp only [Option.bind_some]
            rw [if_neg (by simp only [decide_eq_true_eq]; omega)]
          · rw [if_neg h3]
            simp only [Option.bind_some]
            rw [if_neg (by decide)]
        · rw [if_neg (by simpa using h2)]
      · rw [if_neg h1]
        simp only [Option.bind_some]
        rw [if_neg (by decide)]
    · rw [if_pos (by omega), if_neg (by omega)]
      have e : Int.tmod (x : Int) (y : Int) = ((x % y : Nat) : Int) := by
        rw [Int.tmod_eq_emod_of_nonneg (by omega)]; rfl
      rw [e]
      exact ih y (x % y) (by have := Nat.mod_lt x (show 0 < y by omega); omega) (by rw [Nat.gcd_comm y (x % y), ← Nat.gcd_rec, Nat.gcd_comm]; exact hg)
theorem new_j1law {k : Nat} (hk : 4611686018427387925 ≤ k) {n d : Int} (hn : -1152921504606846976 ≤ n ∧ n ≤ 1152921504606846976) (hd : 0 < d ∧ d ≤ 1152921504606846976) :
    coupletlaw04_FracNew.j1 k n d (ofR (R n d)).1 (ofR (R n d)).2.1 (ofR (R n d)).2.2 = some true := by
  obtain ⟨k, rfl⟩ : ∃ n, k = n + 1 := ⟨k - 1, by omega⟩
  unfold coupletlaw04_FracNew.j1
  dsimp only
  by_cases h : small (R n d)
  · rw [ofR_small h]
    dsimp only
    have hf := fine_of h
    have hden := (R n d).den_pos
    rw [if_neg (by decide), lawfine_eq (by omega), fine_eq (by omega), hf]
    simp only [Option.bind_some, if_true]
    rw [same_eq (by omega) (by omega) (by obtain ⟨a, b, c⟩ := h; omega) (by omega) (by obtain ⟨a, b, c⟩ := h; omega), awake_eq (by omega)]
    simp only [Option.bind_some]
    rw [if_pos (decide_eq_true (R_cross (by omega)))]
  · rw [ofR_wrong h]
    dsimp only
    rw [if_pos rfl, mx_abs (by omega)]
    have g0 : 0 < Int.gcd n d := Int.gcd_pos_of_ne_zero_right n (by omega)
    have t1 : Int.tdiv n (Int.gcd n d : Int) = (R n d).num := by rw [Int.tdiv_eq_ediv_of_dvd (Int.gcd_dvd_left ..), num_pos hd.1]
    have t2 : Int.tdiv d (Int.gcd n d : Int) = ((R n d).den : Int) := by rw [Int.tdiv_eq_ediv_of_dvd (Int.gcd_dvd_right ..), den_pos' hd.1]
    have q1 := num_bd (n := n) hd.1
    have q2 := den_bd (n := n) hd.1
    have q3 := (R n d).den_pos
    rw [show d = (d.natAbs : Int) by omega] at *
    refine new_loop (g := Int.gcd n (d.natAbs : Int)) (by omega) (by rw [t1, w64 (by omega)]) (by rw [t2, w64 (by omega)]) ?_ k n.natAbs d.natAbs (by omega) rfl
    intro hc; exact h ⟨by omega, by omega, by omega⟩
theorem fracNew {k : Nat} (hk : 4611686018427387930 ≤ k) (a0 a1 : Int) (h0 : (Lit.int .i64 a0).wf = true) (h1 : (Lit.int .i64 a1).wf = true) : coupletlaw04_FracNew.f k a0 a1 = some true := by
  obtain ⟨k, rfl⟩ : ∃ n, k = n + 1 := ⟨k - 1, by omega⟩
  unfold coupletlaw04_FracNew.f
  rw [new_eq (by omega)]
  simp only [Option.bind_some]
  have hw : newP a0 a1 = (0, 0, true) → coupletlaw04_FracNew.j0 (k + 1) a0 a1 true (newP a0 a1).1 (newP a0 a1).2.1 (newP a0 a1).2.2 = some true := by
    intro h; rw [h]; unfold coupletlaw04_FracNew.j0
    dsimp only
    rw [awake_eq (by omega)]
    simp [frac_Wrong.f]
  by_cases c1 : a0 > 1152921504606846976
  · rw [if_pos c1, hw (by unfold newP; rw [if_pos (by omega)])]
  · rw [if_neg c1]
    by_cases c2 : a0 < -1152921504606846976
    · rw [if_pos c2, hw (by unfold newP; rw [if_pos (by omega)])]
    · rw [if_neg c2]
      by_cases c3 : a1 > 1152921504606846976
      · rw [if_pos c3, hw (by unfold newP; rw [if_pos (by omega)])]
      · rw [if_neg c3]
        by_cases c4 : a1 < -1152921504606846976
        · rw [if_pos c4, hw (by unfold newP; rw [if_pos (by omega)])]
        · rw [if_neg c4]
          by_cases c5 : a1 = 0
          · rw [show (a1 == 0) = true by simp [c5], hw (by unfold newP; rw [if_pos (by omega)])]
          · rw [show (a1 == 0) = false by simp [c5], newP_in (by omega) (by omega) c5]
            unfold coupletlaw04_FracNew.j0
            dsimp only
            rw [if_neg (by decide)]
            by_cases c6 : a1 < 0
            · rw [if_pos c6, w64 (by omega), w64 (by omega), show R a0 a1 = R (-a0) (-a1) by unfold R; rw [Rat.neg_divInt_neg]]
              exact new_j1law (by omega) (by omega) (by omega)
            · rw [if_neg c6]
              exact new_j1law (by omega) (by omega) (by omega)
end Go.Proofs.Ytbpbeighpaaeaaa.Fr
