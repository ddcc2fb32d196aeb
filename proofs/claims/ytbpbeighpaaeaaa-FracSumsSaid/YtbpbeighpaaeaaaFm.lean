/- Plain law: rows of 130 bits, and what is compared crosswise. -/
import Derived.Test.YtbpbeighpaaeaaaFr
import Derived.Test.YtbpbeighpaaeaaaGx7
namespace Go.Proofs.Ytbpbeighpaaeaaa.Fr
open Go.RowKit Go.Proofs.YtbpbeighpaaeaaaW.PrintWords Go.Proofs.YtbpbeighpaaeaaaW.PrintLast Go.Proofs.YtbpbeighpaaeaaaW.PrintMore Go.Proofs.Ytbpbeighpaaeaaa.G
set_option linter.unusedVariables false
set_option linter.unusedSimpArgs false

/-- The lowest m bits, the lowest first. -/
def bl : Nat → Nat → List Int
  | 0, _ => []
  | m + 1, n => ((n % 2 : Nat) : Int) :: bl m (n / 2)
theorem bl_len : ∀ m n, (bl m n).length = m
  | 0, _ => rfl
  | m + 1, n => by simp [bl, bl_len m]
theorem bl_take : ∀ m n, (bl (m + 1) n).take m = bl m n
  | 0, _ => rfl
  | m + 1, n => by
    have := bl_take m (n / 2)
    simp only [bl] at this ⊢
    rw [List.take_succ_cons]
    simp only [this]
theorem bl_get : ∀ m n j, j < m → (bl m n).getD j 0 = ((n / 2 ^ j % 2 : Nat) : Int)
  | 0, _, _, h => by omega
  | m + 1, n, 0, h => by simp [bl]
  | m + 1, n, j + 1, h => by
    have := bl_get m (n / 2) j (by omega)
    simp only [bl, List.getD_cons_succ]
    rw [this, Nat.div_div_eq_div_mul, Nat.pow_succ, Nat.mul_comm (2 ^ j) 2]
theorem bl_rd {m n j : Nat} (h : j < m) : rd (bl m n) (j : Int) = ((n / 2 ^ j % 2 : Nat) : Int) := by
  unfold rd; rw [Int.toNat_natCast]; exact bl_get m n j h
theorem half (n j : Nat) : n / 2 ^ (j + 1) = n / 2 ^ j / 2 := by rw [Nat.pow_succ, Nat.div_div_eq_div_mul]

theorem bits_l0 : ∀ (m k n j : Nat) (acc : List Int), m + j = 130 → m < k → n < 9223372036854775808 → acc.length = j →
    coupletref01_Bits.l0 k (n : Int) acc (j : Int) = some (acc ++ bl m n) := by
  intro m
  induction m with
  | zero =>
    intro k n j acc h hk hn hl
    obtain ⟨k, rfl⟩ : ∃ n, k = n + 1 := ⟨k - 1, by omega⟩
    unfold coupletref01_Bits.l0
    rw [if_neg (by omega)]; simp [bl]
  | succ m ih =>
    intro k n j acc h hk hn hl
    obtain ⟨k, rfl⟩ : ∃ n, k = n + 1 := ⟨k - 1, by omega⟩
    unfold coupletref01_Bits.l0
    rw [if_pos (by omega), if_pos (by omega)]
    have e1 : wrap64 (Int.tdiv (n : Int) 2) = ((n / 2 : Nat) : Int) := by rw [Int.tdiv_eq_ediv_of_nonneg (by omega), w64 (by omega)]; rfl
    have e2 : Int.tmod (n : Int) 2 = ((n % 2 : Nat) : Int) := by rw [Int.tmod_eq_emod_of_nonneg (by omega)]; rfl
    have e3 : wrap64 ((j : Int) + 1) = ((j + 1 : Nat) : Int) := by rw [w64 (by omega)]; rfl
    rw [e1, e2, e3, ih k (n / 2) (j + 1) _ (by omega) (by omega) (by omega) (by simp [hl])]
    simp [bl, List.append_assoc]
theorem bits_eq {k n : Nat} (hk : 200 ≤ k) (hn : n < 9223372036854775808) : coupletref01_Bits.f k (n : Int) = some (bl 130 n) := by
  have := bits_l0 130 k n 0 [] (by omega) (by omega) hn rfl
  simpa [coupletref01_Bits.f] using this

theorem st0 {u v c : Nat} (hu : u ≤ 1) (hv : v ≤ 1) (hc : c ≤ 1) : wrap64 (wrap64 ((u : Int) + (v : Int)) + (c : Int)) = ((u + v + c : Nat) : Int) := by
  rw [w64 (n := (u : Int) + (v : Int)) (by omega), w64 (by omega)]; omega
theorem st1 {n : Nat} (h : n ≤ 3) : wrap64 (Int.tdiv (n : Int) 2) = ((n / 2 : Nat) : Int) := by
  rw [Int.tdiv_eq_ediv_of_nonneg (by omega), w64 (by omega)]; rfl
theorem st2 (n : Nat) : Int.tmod (n : Int) 2 = ((n % 2 : Nat) : Int) := by rw [Int.tmod_eq_emod_of_nonneg (by omega)]; rfl
theorem st3 {j : Nat} (h : j < 1000) : wrap64 ((j : Int) + 1) = ((j + 1 : Nat) : Int) := by rw [w64 (by omega)]; rfl
theorem st4 (x y c : Nat) : (x + y + c) % 2 = (x % 2 + y % 2 + c) % 2 := by omega
theorem st5 (x y c : Nat) : (x + y + c) / 2 = x / 2 + y / 2 + (x % 2 + y % 2 + c) / 2 := by omega
theorem lt2 (x : Nat) : x % 2 ≤ 1 := by omega
theorem st6 {x y c : Nat} (hc : c ≤ 1) : (x % 2 + y % 2 + c) / 2 ≤ 1 := by omega
theorem st7 {x y c : Nat} (hc : c ≤ 1) : x % 2 + y % 2 + c ≤ 3 := by omega
theorem add_l0 (A B : List Int) (a b : Nat) (hA : A.length = 130) (hB : B.length = 130) (rA : ∀ j : Nat, j < 130 → rd A (j : Int) = ((a / 2 ^ j % 2 : Nat) : Int)) (rB : ∀ j : Nat, j < 130 → rd B (j : Int) = ((b / 2 ^ j % 2 : Nat) : Int)) : ∀ (m k c j : Nat) (acc : List Int), m + j = 130 → m < k → c ≤ 1 → acc.length = j →
    coupletref01_Add.l0 k A B acc (c : Int) (j : Int) = some (acc ++ bl m (a / 2 ^ j + b / 2 ^ j + c)) := by
  intro m
  induction m with
  | zero =>
    intro k c j acc h hk hc hl
    obtain ⟨k, rfl⟩ : ∃ n, k = n + 1 := ⟨k - 1, by omega⟩
    unfold coupletref01_Add.l0
    rw [if_neg (by omega)]; simp [bl]
  | succ m ih =>
    intro k c j acc h hk hc hl
    obtain ⟨k, rfl⟩ : ∃ n, k = n + 1 := ⟨k - 1, by omega⟩
    unfold coupletref01_Add.l0
    rw [if_pos (by omega), if_pos (by omega), hA, hB, if_pos (by omega), if_pos (by omega), if_pos (by omega), rA j (by omega), rB j (by omega)]
    obtain ⟨x, hx⟩ : ∃ x, x = a / 2 ^ j := ⟨_, rfl⟩
    obtain ⟨y, hy⟩ : ∃ y, y = b / 2 ^ j := ⟨_, rfl⟩
    have hx' : a / 2 ^ (j + 1) = x / 2 := by rw [half, hx]
    have hy' : b / 2 ^ (j + 1) = y / 2 := by rw [half, hy]
    rw [← hx, ← hy]
    clear hx hy
    rw [st0 (lt2 x) (lt2 y) hc, st1 (st7 hc), st2, st3 (by omega), ih k _ (j + 1) _ (by omega) (by omega) (st6 hc) (by simp [hl])]
    simp only [bl, List.append_assoc, List.singleton_append]
    rw [st4 x y c, st5 x y c, hx', hy']
theorem bitadd_eq {k : Nat} (hk : 200 ≤ k) (a b : Nat) : coupletref01_Add.f k (bl 130 a) (bl 130 b) = some (bl 130 (a + b)) := by
  have := add_l0 (bl 130 a) (bl 130 b) a b (bl_len _ _) (bl_len _ _) (fun j h => bl_rd h) (fun j h => bl_rd h) 130 k 0 0 [] (by omega) (by omega) (by omega) rfl
  rw [Nat.pow_zero, Nat.div_one, Nat.div_one, Nat.add_zero, List.nil_append] at this
  exact this
theorem up_eq (a : Nat) : coupletref01_Up.f (bl 130 a) 0 = some (bl 130 (2 * a)) := by
  unfold coupletref01_Up.f
  simp only [Option.bind_some]
  rw [bl_len, if_pos (by omega), bl_take 129, bl_len, if_pos (by simp)]
  congr 1
  show _ = ((2 * a % 2 : Nat) : Int) :: bl 129 (2 * a / 2)
  rw [show 2 * a % 2 = 0 by omega, show 2 * a / 2 = a by omega]
  rfl
theorem times_l0 : ∀ (m k o x b j : Nat), m + j = 63 → m + 200 < k → b / 2 ^ j < 2 ^ m →
    coupletref01_Times.l0 k (bl 130 o) (bl 130 x) (bl 130 b) (j : Int) = some (bl 130 (o + x * (b / 2 ^ j))) := by
  intro m
  induction m with
  | zero =>
    intro k o x b j h hk hb
    obtain ⟨k, rfl⟩ : ∃ n, k = n + 1 := ⟨k - 1, by omega⟩
    unfold coupletref01_Times.l0
    rw [if_neg (by omega)]
    have : b / 2 ^ j = 0 := by simpa using hb
    rw [this, Nat.mul_zero, Nat.add_zero]
  | succ m ih =>
    intro k o x b j h hk hb
    obtain ⟨k, rfl⟩ : ∃ n, k = n + 1 := ⟨k - 1, by omega⟩
    unfold coupletref01_Times.l0
    rw [if_pos (by omega), if_pos (by omega), bl_len, if_pos (by omega), bl_rd (by omega)]
    obtain ⟨y, hy⟩ : ∃ y, y = b / 2 ^ j := ⟨_, rfl⟩
    rw [← hy] at hb ⊢
    have e3 : wrap64 ((j : Int) + 1) = ((j + 1 : Nat) : Int) := by rw [w64 (by omega)]; rfl
    have hb2 : b / 2 ^ (j + 1) < 2 ^ m := by rw [half, ← hy]; rw [Nat.pow_succ] at hb; omega
    by_cases hc : ((y % 2 : Nat) : Int) = 1
    · rw [if_pos hc, bitadd_eq (by omega), up_eq]
      simp only [Option.bind_some]
      rw [e3, ih k (o + x) (2 * x) b (j + 1) (by omega) (by omega) hb2, half, ← hy]
      have : y = 2 * (y / 2) + 1 := by omega
      congr 2
      generalize hz : y / 2 = z at *
      subst this
      grind
    · rw [if_neg hc, up_eq]
      simp only [Option.bind_some]
      rw [e3, ih k o (2 * x) b (j + 1) (by omega) (by omega) hb2, half, ← hy]
      have : y = 2 * (y / 2) := by omega
      congr 2
      generalize hz : y / 2 = z at *
      subst this
      grind
theorem times_eq {k a b : Nat} (hk : 300 ≤ k) (ha : a < 9223372036854775808) (hb : b < 9223372036854775808) : coupletref01_Times.f k (a : Int) (b : Int) = some (bl 130 (a * b)) := by
  unfold coupletref01_Times.f
  rw [show coupletref01_Bits.f k 0 = some (bl 130 0) from bits_eq (n := 0) (by omega) (by omega), bits_eq (by omega) ha, bits_eq (by omega) hb]
  simp only [Option.bind_some]
  have := times_l0 63 k 0 a b 0 (by omega) (by omega) (by simpa using hb)
  simpa using this
theorem less_l0 : ∀ (m k p q : Nat), m ≤ 130 → m < k → p / 2 ^ m = q / 2 ^ m →
    coupletref01_Less.l0 k (bl 130 p) (bl 130 q) ((m : Int) - 1) = some (decide (p < q)) := by
  intro m
  induction m with
  | zero =>
    intro k p q h hk hpq
    obtain ⟨k, rfl⟩ : ∃ n, k = n + 1 := ⟨k - 1, by omega⟩
    unfold coupletref01_Less.l0
    rw [if_neg (by omega)]
    have : p = q := by simpa using hpq
    subst this; simp
  | succ m ih =>
    intro k p q h hk hpq
    obtain ⟨k, rfl⟩ : ∃ n, k = n + 1 := ⟨k - 1, by omega⟩
    unfold coupletref01_Less.l0
    rw [show ((m + 1 : Nat) : Int) - 1 = (m : Int) by omega, if_pos (by omega), if_pos (by omega), bl_len, bl_len, if_pos (by omega), if_pos (by omega), bl_rd (by omega), bl_rd (by omega), w64 (by omega)]
    rw [half, half] at hpq
    by_cases hc : ((p / 2 ^ m % 2 : Nat) : Int) = ((q / 2 ^ m % 2 : Nat) : Int)
    · rw [if_pos hc]; exact ih k p q (by omega) (by omega) (by omega)
    · rw [if_neg hc]
      congr 1
      rw [Bool.eq_iff_iff, decide_eq_true_eq, decide_eq_true_eq]
      constructor
      · intro hlt
        apply Nat.lt_of_not_le; intro hle
        have := Nat.div_le_div_right (c := 2 ^ m) hle
        omega
      · intro hlt
        have := Nat.div_le_div_right (c := 2 ^ m) (Nat.le_of_lt hlt)
        omega
theorem less_eq {k p q : Nat} (hk : 200 ≤ k) (hp : p < 2 ^ 130) (hq : q < 2 ^ 130) : coupletref01_Less.f k (bl 130 p) (bl 130 q) = some (decide (p < q)) :=
  less_l0 130 k p q (by omega) (by omega) (by rw [Nat.div_eq_of_lt hp, Nat.div_eq_of_lt hq])
theorem size_eq {a : Int} (h : -9223372036854775808 < a ∧ a < 9223372036854775808) : coupletref01_size.f a = some (a.natAbs : Int) := by
  unfold coupletref01_size.f
  split
  · rw [w64 (by omega)]; congr 1; omega
  · congr 1; omega
theorem cmp_j3 {k p q : Nat} {x y : Int} (hk : 1000 ≤ k) (hp : p < 2 ^ 130) (hq : q < 2 ^ 130) (hx : -1 ≤ x ∧ x ≤ 1) (hx0 : x = 0 → p = q) :
    ∃ r, coupletref01_Compare.j3 k (bl 130 p) (bl 130 q) x y = some r ∧ (r = 0 ↔ x = y ∧ p = q) := by
  obtain ⟨k, rfl⟩ : ∃ n, k = n + 1 := ⟨k - 1, by omega⟩
  unfold coupletref01_Compare.j3
  dsimp only
  by_cases h : x = y
  · rw [if_pos h, less_eq (by omega) hp hq, less_eq (by omega) hq hp]
    simp only [Option.bind_some]
    by_cases h1 : p < q
    · rw [if_pos (decide_eq_true h1)]; exact ⟨_, rfl, by rw [w64 (by omega)]; omega⟩
    · rw [if_neg (by simpa using h1)]
      by_cases h2 : q < p
      · rw [if_pos (decide_eq_true h2)]; exact ⟨_, rfl, by omega⟩
      · rw [if_neg (by simpa using h2)]; exact ⟨_, rfl, by omega⟩
  · rw [if_neg h]
    split
    · exact ⟨_, rfl, by omega⟩
    · exact ⟨_, rfl, by omega⟩
theorem cmp_j1 {k p q : Nat} {m d x : Int} (hk : 1010 ≤ k) (hd : 0 < d) (hp : p < 2 ^ 130) (hq : q < 2 ^ 130) (hx : -1 ≤ x ∧ x ≤ 1) (hx0 : x = 0 → p = q ∨ m ≠ 0) (hx1 : x = 0 → p = 0) (hq0 : q = 0 ↔ m = 0) :
    ∃ r, coupletref01_Compare.j1 k m d (bl 130 p) (bl 130 q) x = some r ∧ (r = 0 ↔ x = m.sign ∧ p = q) := by
  obtain ⟨k, rfl⟩ : ∃ n, k = n + 2 := ⟨k - 2, by omega⟩
  unfold coupletref01_Compare.j1
  dsimp only
  have fin : ∀ y : Int, y = m.sign → ∃ r, coupletref01_Compare.j3 k (bl 130 p) (bl 130 q) x y = some r ∧ (r = 0 ↔ x = m.sign ∧ p = q) := by
    intro y hy
    subst hy
    by_cases hc : x = 0 → p = q
    · exact cmp_j3 (by omega) hp hq hx hc
    · have hx00 : x = 0 := by apply Classical.byContradiction; intro h; exact hc (fun h2 => absurd h2 h)
      have hne : p ≠ q := fun h => hc (fun _ => h)
      have hm : m ≠ 0 := by rcases hx0 hx00 with h | h; exact absurd h hne; exact h
      have hs : m.sign ≠ 0 := by rw [Ne, Int.sign_eq_zero_iff_zero]; exact hm
      obtain ⟨k, rfl⟩ : ∃ n, k = n + 1 := ⟨k - 1, by omega⟩
      unfold coupletref01_Compare.j3
      dsimp only
      rw [if_neg (by omega)]
      split
      · exact ⟨_, rfl, by omega⟩
      · exact ⟨_, rfl, by omega⟩
  by_cases h1 : m > 0
  · rw [if_pos h1, if_pos hd]
    unfold coupletref01_Compare.j2
    dsimp only
    rw [if_pos rfl]
    exact fin 1 (Int.sign_eq_one_of_pos h1).symm
  · rw [if_neg h1]
    by_cases h2 : m < 0
    · rw [if_pos h2, decide_eq_false (by omega)]
      unfold coupletref01_Compare.j2
      dsimp only
      rw [if_neg (by decide), if_neg (by omega), if_neg (by omega)]
      exact fin (-1) (Int.sign_eq_neg_one_of_neg h2).symm
    · rw [if_neg h2]
      have hm : m = 0 := by omega
      unfold coupletref01_Compare.j2
      dsimp only
      rw [if_neg (by decide), if_pos hm]
      exact fin 0 (by rw [hm]; rfl)
/-- What stands for what: compared crosswise. -/
theorem same_eq {k : Nat} {n d m e : Int} (hk : 2000 ≤ k) (hn : -4611686018427387904 ≤ n ∧ n ≤ 4611686018427387904) (hm : -4611686018427387904 ≤ m ∧ m ≤ 4611686018427387904) (hd : 0 < d ∧ d ≤ 4611686018427387904) (he : 0 < e ∧ e ≤ 4611686018427387904) :
    coupletref04_Same.f k n d m e = some (decide (n * e = m * d)) := by
  have bd : ∀ x y : Nat, x ≤ 4611686018427387904 → y ≤ 4611686018427387904 → x * y < 2 ^ 130 := by
    intro x y hx hy
    have := Nat.mul_le_mul hx hy
    exact Nat.lt_of_le_of_lt this (by decide)
  obtain ⟨k, rfl⟩ : ∃ n, k = n + 1 := ⟨k - 1, by omega⟩
  have key : ∃ r, coupletref01_Compare.f (k + 1) n e m d = some r ∧ (r = 0 ↔ n * e = m * d) := by
    unfold coupletref01_Compare.f
    rw [size_eq (by omega), size_eq (by omega), size_eq (by omega), size_eq (by omega)]
    simp only [Option.bind_some]
    rw [times_eq (by omega) (by omega) (by omega), times_eq (by omega) (by omega) (by omega)]
    simp only [Option.bind_some]
    have hp := bd n.natAbs e.natAbs (by omega) (by omega)
    have hq := bd m.natAbs d.natAbs (by omega) (by omega)
    have q0 : m.natAbs * d.natAbs = 0 ↔ m = 0 := by
      rw [Nat.mul_eq_zero]; omega
    have p0 : n.natAbs * e.natAbs = 0 ↔ n = 0 := by
      rw [Nat.mul_eq_zero]; omega
    have ends : ∀ x : Int, x = n.sign → ∃ r, coupletref01_Compare.j1 k m d (bl 130 (n.natAbs * e.natAbs)) (bl 130 (m.natAbs * d.natAbs)) x = some r ∧ (r = 0 ↔ n * e = m * d) := by
      intro x hx
      have hx0 : x = 0 → n = 0 := by intro h; rw [h] at hx; exact Int.sign_eq_zero_iff_zero.mp hx.symm
      have hxb : -1 ≤ x ∧ x ≤ 1 := by
        rcases Int.lt_trichotomy n 0 with h | h | h
        · rw [Int.sign_eq_neg_one_of_neg h] at hx; omega
        · subst h; simp at hx; omega
        · rw [Int.sign_eq_one_of_pos h] at hx; omega
      obtain ⟨r, e1, e2⟩ := cmp_j1 (k := k) (m := m) (d := d) (x := x) (by omega) hd.1 hp hq hxb
        (by intro h; have hn0 := hx0 h; by_cases hm0 : m = 0
            · left; rw [q0.mpr hm0, p0.mpr hn0]
            · right; exact hm0)
        (by intro h; exact p0.mpr (hx0 h)) q0
      refine ⟨r, e1, e2.trans ?_⟩
      rw [hx]
      constructor
      · rintro ⟨h1, h2⟩
        have a1 : n * e = n.sign * ((n.natAbs * e.natAbs : Nat) : Int) := by
          rw [Int.natCast_mul, ← Int.mul_assoc, Int.sign_mul_natAbs]; congr 1; omega
        have a2 : m * d = m.sign * ((m.natAbs * d.natAbs : Nat) : Int) := by
          rw [Int.natCast_mul, ← Int.mul_assoc, Int.sign_mul_natAbs]; congr 1; omega
        rw [a1, a2, h1, h2]
      · intro h
        refine ⟨?_, ?_⟩
        · have := congrArg Int.sign h
          rw [Int.sign_mul, Int.sign_mul, Int.sign_eq_one_of_pos he.1, Int.sign_eq_one_of_pos hd.1, Int.mul_one, Int.mul_one] at this
          exact this
        · have := congrArg Int.natAbs h
          rw [Int.natAbs_mul, Int.natAbs_mul] at this
          exact this
    by_cases h1 : n > 0
    · rw [if_pos h1, if_pos (by omega)]
      unfold coupletref01_Compare.j0
      dsimp only
      rw [if_pos rfl]
      exact ends 1 (Int.sign_eq_one_of_pos h1).symm
    · rw [if_neg h1]
      by_cases h2 : n < 0
      · rw [if_pos h2, decide_eq_false (by omega)]
        unfold coupletref01_Compare.j0
        dsimp only
        rw [if_neg (by decide), if_neg (by omega), if_neg (by omega)]
        exact ends (-1) (Int.sign_eq_neg_one_of_neg h2).symm
      · rw [if_neg h2]
        unfold coupletref01_Compare.j0
        dsimp only
        rw [if_neg (by decide), if_pos (by omega)]
        exact ends 0 (by rw [show n = 0 by omega]; rfl)
  obtain ⟨r, e1, e2⟩ := key
  unfold coupletref04_Same.f
  rw [e1]
  simp only [Option.bind_some]
  congr 1
  rw [Bool.eq_iff_iff, beq_iff_eq, decide_eq_true_eq]
  exact e2
end Go.Proofs.Ytbpbeighpaaeaaa.Fr
