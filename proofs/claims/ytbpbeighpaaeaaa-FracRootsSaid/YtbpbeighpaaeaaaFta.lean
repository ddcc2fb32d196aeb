/- Plain law: roots, signs. -/
import Derived.Test.YtbpbeighpaaeaaaFs
import Derived.Test.YtbpbeighpaaeaaaGx11
namespace Go.Proofs.Ytbpbeighpaaeaaa.Fr
open Go.RowKit Go.Proofs.YtbpbeighpaaeaaaW.PrintWords Go.Proofs.YtbpbeighpaaeaaaW.PrintLast Go.Proofs.YtbpbeighpaaeaaaW.PrintMore Go.Proofs.Ytbpbeighpaaeaaa.G
set_option linter.unusedVariables false
set_option linter.unusedSimpArgs false

theorem sq_lt {a b : Int} (h0 : 0 ≤ a) (h : a < b) : a * a < b * b := by
  have h1 : a * a ≤ a * b := Int.mul_le_mul_of_nonneg_left (by omega) h0
  have h2 : a * b < b * b := Int.mul_lt_mul_of_pos_right h (by omega)
  omega
theorem sq_le {a b : Int} (h0 : 0 ≤ a) (h : a ≤ b) : a * a ≤ b * b := by
  rcases Int.lt_or_eq_of_le h with h | h
  · exact Int.le_of_lt (sq_lt h0 h)
  · subst h; exact Int.le_refl _
theorem sq_one {a b n : Int} (ha : 0 ≤ a) (hb : 0 ≤ b) (h1 : a * a ≤ n) (h2 : n < (a + 1) * (a + 1)) (h3 : b * b ≤ n) (h4 : n < (b + 1) * (b + 1)) : a = b := by
  rcases Int.lt_trichotomy a b with h | h | h
  · have := sq_le (a := a + 1) (b := b) (by omega) (by omega); omega
  · exact h
  · have := sq_le (a := b + 1) (b := a) (by omega) (by omega); omega
/-- The whole root, told with its bounds. -/
def Fl (n s : Int) : Prop := 0 ≤ s ∧ s ≤ 65536 ∧ s * s ≤ n ∧ n < (s + 1) * (s + 1)
theorem Fl_one {n a b : Int} (ha : Fl n a) (hb : Fl n b) : a = b := sq_one ha.1 hb.1 ha.2.2.1 ha.2.2.2 hb.2.2.1 hb.2.2.2
theorem Fl_sq {m : Int} (h : 0 ≤ m ∧ m ≤ 65536) : Fl (m * m) m := ⟨h.1, h.2, Int.le_refl _, sq_lt h.1 (by omega)⟩

theorem square_l0 : ∀ (k : Nat) (n lo hi : Int), 0 ≤ n → 0 ≤ lo → lo < hi → hi ≤ 32769 → lo * lo ≤ n → n < hi * hi → hi - lo < (k : Int) →
    ∃ s, Fl n s ∧ coupletref04_Square.l0 k n lo hi = some (if s * s = n then s else -1) := by
  intro k
  induction k with
  | zero => intro n lo hi h0 h1 h2 h3 h4 h5 h6; omega
  | succ k ih =>
    intro n lo hi h0 h1 h2 h3 h4 h5 h6
    unfold coupletref04_Square.l0
    rw [w64 (n := lo + 1) (by omega)]
    by_cases h : lo + 1 < hi
    · rw [if_pos h, w64 (n := lo + hi) (by omega), Int.tdiv_eq_ediv_of_nonneg (by omega)]
      obtain ⟨m, hm⟩ : ∃ m, m = (lo + hi) / 2 := ⟨_, rfl⟩
      rw [← hm, w64 (n := m) (by omega)]
      have hmb := mulb (x := m) (y := m) (by omega) (by omega)
      rw [w64 (n := m * m) (by omega)]
      by_cases hc : m * m ≤ n
      · rw [if_pos hc]; exact ih n m hi h0 (by omega) (by omega) h3 hc h5 (by omega)
      · rw [if_neg hc]; exact ih n lo m h0 h1 (by omega) (by omega) h4 (by omega) (by omega)
    · rw [if_neg h]
      have e : hi = lo + 1 := by omega
      subst e
      have hmb := mulb (x := lo) (y := lo) (by omega) (by omega)
      rw [w64 (n := lo * lo) (by omega)]
      refine ⟨lo, ⟨h1, by omega, h4, h5⟩, ?_⟩
      split <;> rfl
theorem square_eq {k : Nat} {n : Int} (hk : 32800 ≤ k) (hn : 0 ≤ n ∧ n ≤ 1073741824) : ∃ s, Fl n s ∧ coupletref04_Square.f k n = some (if s * s = n then s else -1) :=
  square_l0 k n 0 32769 hn.1 (by omega) (by omega) (by omega) (by omega) (by omega) (by omega)

theorem or_join {r p : Int} {m : Nat} (hm : m ≤ 15) (hp : p = 2 ^ m) (h0 : 0 ≤ r) (h1 : r < 4294967296) (hr : r % (2 * p) = 0) : Go.bits .or .i64 r (shl .i64 1 (m : Int)) = r + p := by
  have hpos : (1 : Int) ≤ 2 ^ m := by exact_mod_cast Nat.one_le_two_pow
  have hle : (2 : Int) ^ m ≤ 32768 := by
    have h1 : (2 : Nat) ^ m ≤ 32768 := Nat.pow_le_pow_right (by omega : 2 > 0) hm
    have h2 : ((2 ^ m : Nat) : Int) ≤ ((32768 : Nat) : Int) := Int.ofNat_le.mpr h1
    rw [Int.natCast_pow] at h2
    exact h2
  have e : shl .i64 1 (m : Int) = p := by
    unfold shl
    rw [show min ((m : Int).toNat) IntKind.i64.bits = m from by rw [Int.toNat_natCast]; exact Nat.min_eq_left (show m ≤ 64 by omega), i64_w, Int.one_mul, w64 (by omega), hp]
  rw [e]
  refine bits_join .i64 40 (by decide) ?_ (m + 1) r p h0 ?_ (by omega) (by omega) ?_ (by omega)
  · intro n hn0 hn1
    rw [i64_w, w64 (by omega)]
  · rw [Int.pow_succ, Int.mul_comm, ← hp]; exact hr
  · rw [Int.pow_succ, ← hp]; omega
theorem root_l0 : ∀ (m k : Nat) (n r p c : Int), m ≤ 16 → m < k → p = 2 ^ m → r = c * p → 0 ≤ r → r + p ≤ 65536 → r * r ≤ n → n < (r + p) * (r + p) →
    ∃ s, Fl n s ∧ frac_root.l0 k n r ((m : Int) - 1) = some (if s * s = n then s else -1) := by
  intro m
  induction m with
  | zero =>
    intro k n r p c hm hk hp hr h0 h1 h2 h3
    obtain ⟨k, rfl⟩ : ∃ n, k = n + 1 := ⟨k - 1, by omega⟩
    have hp : p = 1 := by simpa using hp
    subst hp
    unfold frac_root.l0
    rw [if_neg (by omega)]
    have hb : r * r ≤ 65536 * 65536 := sq_le h0 (by omega)
    have hb2 : 0 ≤ r * r := Int.mul_nonneg h0 h0
    rw [w64 (n := r * r) (by omega)]
    refine ⟨r, ⟨h0, by omega, h2, h3⟩, ?_⟩
    split <;> rfl
  | succ m ih =>
    intro k n r p c hm hk hp hr h0 h1 h2 h3
    obtain ⟨k, rfl⟩ : ∃ n, k = n + 1 := ⟨k - 1, by omega⟩
    obtain ⟨q, hq⟩ : ∃ q : Int, q = 2 ^ m := ⟨_, rfl⟩
    have hpq : p = 2 * q := by rw [hp, hq, Int.pow_succ, Int.mul_comm]
    have hq1 : 1 ≤ q := by rw [hq]; exact_mod_cast Nat.one_le_two_pow
    unfold frac_root.l0
    rw [show ((m + 1 : Nat) : Int) - 1 = (m : Int) by omega, if_pos (by omega), if_pos (by omega)]
    rw [or_join (by omega) hq h0 (by omega) (by rw [hr, hpq]; exact Int.mul_emod_left ..)]
    have hb : (r + q) * (r + q) ≤ 65536 * 65536 := sq_le (by omega) (by omega)
    have hb2 : 0 ≤ (r + q) * (r + q) := Int.mul_nonneg (by omega) (by omega)
    rw [w64 (n := (r + q) * (r + q)) (by omega), w64 (n := (m : Int) - 1) (by omega)]
    by_cases hc : (r + q) * (r + q) ≤ n
    · rw [if_pos hc]
      refine ih k n (r + q) q (2 * c + 1) (by omega) (by omega) hq ?_ (by omega) (by omega) hc ?_
      · rw [hr, hpq, Int.add_mul, Int.one_mul, Int.mul_comm 2 c, Int.mul_assoc]
      · rw [show r + q + q = r + p by omega]; exact h3
    · rw [if_neg hc]
      refine ih k n r q (2 * c) (by omega) (by omega) hq ?_ h0 (by omega) h2 (by omega)
      rw [hr, hpq, Int.mul_comm 2 c, Int.mul_assoc]
theorem root_eq {k : Nat} {n : Int} (hk : 32800 ≤ k) (hn : 0 ≤ n ∧ n ≤ 1073741824) : ∃ s, Fl n s ∧ frac_root.f k n = some (if s * s = n then s else -1) :=
  root_l0 16 k n 0 65536 0 (by omega) (by omega) (by decide) (by decide) (by omega) (by omega) (by omega) (by omega)

theorem sign_eq {k : Nat} (hk : 4611686018427387920 ≤ k) (a0 a1 : Int) (a2 : Bool) :
    frac_Frac_Sign.f k a0 a1 a2 = some (if fineP a0 a1 a2 = true then (if a0 < 0 then -1 else if a0 = 0 then 0 else 1) else 0) := by
  obtain ⟨k, rfl⟩ : ∃ n, k = n + 1 := ⟨k - 1, by omega⟩
  unfold frac_Frac_Sign.f
  rw [fine_eq (by omega)]
  simp only [Option.bind_some]
  by_cases ha : fineP a0 a1 a2 = true
  · rw [if_pos ha, if_pos ha]
    unfold frac_Frac_Sign.j0
    by_cases h : a0 = 0
    · subst h; simp
    · rw [show (a0 == 0) = false by simp [h]]
      by_cases h2 : a0 < 0
      · simp [h2]
      · simp [h2, h]
  · rw [if_neg ha, if_neg ha]
    unfold frac_Frac_Sign.j0
    simp

theorem fine_root {a0 a1 s t : Int} {a2 : Bool} (ha : fineP a0 a1 a2 = true) (hs : Fl a0 s) (ht : Fl a1 t) (es : s * s = a0) (et : t * t = a1) : fineP s t false = true := by
  have h := of_decide_eq_true ha
  have ht0 : t ≠ 0 := by intro h0; subst h0; omega
  have b1 : s ≤ 32768 := by apply Int.not_lt.mp; intro hc; have := sq_lt (a := 32768) (b := s) (by omega) hc; omega
  have b2 : t ≤ 32768 := by apply Int.not_lt.mp; intro hc; have := sq_lt (a := 32768) (b := t) (by omega) hc; omega
  have := hs.1
  have := ht.1
  refine decide_eq_true ⟨rfl, by omega, by omega, by omega, by omega, ?_⟩
  have d1 : (Int.gcd s t : Int) ∣ a0 := by rw [← es]; exact Int.dvd_trans (Int.gcd_dvd_left ..) (Int.dvd_mul_right ..)
  have d2 : (Int.gcd s t : Int) ∣ a1 := by rw [← et]; exact Int.dvd_trans (Int.gcd_dvd_right ..) (Int.dvd_mul_right ..)
  have d3 := Int.dvd_coe_gcd d1 d2
  rw [h.2.2.2.2.2] at d3
  have d4 : Int.gcd s t ∣ 1 := by exact_mod_cast d3
  exact Nat.dvd_one.mp d4
/-- What Root is: of whole roots, or Bad. -/
theorem Root_eq {k : Nat} (hk : 4611686018427387920 ≤ k) {a0 a1 : Int} {a2 : Bool} :
    (¬ (fineP a0 a1 a2 = true ∧ 0 ≤ a0) → frac_Frac_Root.f k a0 a1 a2 = some (0, 0, true)) ∧
    (fineP a0 a1 a2 = true → ∀ s t, Fl a0 s → Fl a1 t → frac_Frac_Root.f k a0 a1 a2 = some (if s * s = a0 ∧ t * t = a1 then (s, t, false) else (0, 0, true))) := by
  obtain ⟨k, rfl⟩ : ∃ n, k = n + 1 := ⟨k - 1, by omega⟩
  have hw : frac_Frac_Root.j0 (k + 1) true a0 a1 a2 = some (0, 0, true) := by unfold frac_Frac_Root.j0; simp [frac_Wrong.f]
  unfold frac_Frac_Root.f
  rw [fine_eq (by omega)]
  simp only [Option.bind_some]
  constructor
  · intro hc
    by_cases ha : fineP a0 a1 a2 = true
    · rw [if_pos ha, if_pos (by apply Int.not_le.mp; intro h; exact hc ⟨ha, h⟩), hw]
    · rw [if_neg ha, hw]
  · intro ha s t hs ht
    have h0 : 0 ≤ a0 := Int.le_trans (Int.mul_nonneg hs.1 hs.1) hs.2.2.1
    obtain ⟨x1, x2, x3, x4⟩ := fine_bd ha
    rw [if_pos ha, if_neg (by omega)]
    obtain ⟨s', hs', e1⟩ := root_eq (k := k + 1) (n := a0) (by omega) (by omega)
    obtain ⟨t', ht', e2⟩ := root_eq (k := k + 1) (n := a1) (by omega) (by omega)
    obtain ⟨s2, hs2, e3⟩ := root_eq (k := k) (n := a0) (by omega) (by omega)
    obtain ⟨t2, ht2, e4⟩ := root_eq (k := k) (n := a1) (by omega) (by omega)
    obtain rfl := Fl_one hs hs'
    obtain rfl := Fl_one ht ht'
    obtain rfl := Fl_one hs hs2
    obtain rfl := Fl_one ht ht2
    rw [e1, e2]
    simp only [Option.bind_some]
    by_cases c1 : s * s = a0
    · rw [if_pos c1, if_neg (by have := hs.1; omega)]
      by_cases c2 : t * t = a1
      · have hf := fine_root ha hs ht c1 c2
        obtain ⟨y1, y2, y3, y4⟩ := fine_bd hf
        rw [if_pos c2, if_pos ⟨c1, c2⟩, show decide (t < 0) = false by have := ht.1; simp; omega]
        unfold frac_Frac_Root.j0
        dsimp only
        rw [if_neg (by decide), e3, e4, if_pos c1, if_pos c2]
        simp only [Option.bind_some]
        rw [new_eq (by omega), newP_in (by omega) (by omega) (by omega)]
        obtain ⟨z1, z2, z3, z4⟩ := fine_R hf
        rw [ofR_small z3, z1, z2]
        rfl
      · rw [if_neg c2, if_neg (fun h => c2 h.2), show decide ((-1 : Int) < 0) = true by decide, hw]
    · rw [if_neg c1, if_pos (by decide), if_neg (fun h => c1 h.1), hw]

theorem R_sq {a0 a1 : Int} {a2 : Bool} (ha : fineP a0 a1 a2 = true) : (R a0 a1 * R a0 a1).num = a0 * a0 ∧ ((R a0 a1 * R a0 a1).den : Int) = a1 * a1 := by
  obtain ⟨e1, e2, _, _⟩ := fine_R ha
  have e : R a0 a1 * R a0 a1 = (R a0 a1) ^ 2 := by grind
  rw [e, Rat.num_pow, Rat.den_pow, e1]
  refine ⟨by grind, ?_⟩
  rw [Int.natCast_pow, e2]; grind
end Go.Proofs.Ytbpbeighpaaeaaa.Fr
