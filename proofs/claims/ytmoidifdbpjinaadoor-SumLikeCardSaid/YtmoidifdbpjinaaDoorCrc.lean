/- The sum of a frame, as plain mathematics of 32 bits: bit by bit, nibble by nibble; it is linear, and no step loses anything. -/
import Derived.Laws.BitsAllLaws
namespace Go.Proofs.YtmoidifdbpjinaaDoor.Crc

def P : BitVec 32 := 0xedb88320#32
/-- One bit. -/
def b1 (n : BitVec 32) : BitVec 32 := if n.getLsbD 0 = true then (n >>> 1) ^^^ P else n >>> 1
def b4 (n : BitVec 32) : BitVec 32 := b1 (b1 (b1 (b1 n)))
def b8 (n : BitVec 32) : BitVec 32 := b4 (b4 n)
/-- What a byte is, as 32 bits. -/
def by32 (c : Int) : BitVec 32 := BitVec.ofNat 32 c.toNat
def run (n : BitVec 32) : List Int → BitVec 32
  | [] => n
  | c :: l => run (b8 (n ^^^ by32 c)) l
def upd (n : BitVec 32) (l : List Int) : BitVec 32 := ~~~ run (~~~ n) l
def sumOf (l : List Int) : BitVec 32 := upd 0#32 l
theorem sumOf_eq (l : List Int) : sumOf l = ~~~ run 4294967295#32 l := by unfold sumOf upd; rw [show (~~~ 0#32 : BitVec 32) = 4294967295#32 from by decide]

theorem run_append (a b : List Int) : ∀ n, run n (a ++ b) = run (run n a) b := by
  induction a with
  | nil => intro n; rfl
  | cons c l ih => intro n; exact ih _

theorem b1_xor (x y : BitVec 32) : b1 (x ^^^ y) = b1 x ^^^ b1 y := by
  unfold b1
  rw [BitVec.getLsbD_xor, BitVec.ushiftRight_xor_distrib]
  cases x.getLsbD 0 <;> cases y.getLsbD 0 <;> simp
  · rw [BitVec.xor_assoc]
  · rw [BitVec.xor_assoc, BitVec.xor_assoc, BitVec.xor_comm P]
  · rw [BitVec.xor_assoc, ← BitVec.xor_assoc P, BitVec.xor_comm P, BitVec.xor_assoc (y >>> 1), BitVec.xor_self, BitVec.xor_zero]
theorem b4_xor (x y : BitVec 32) : b4 (x ^^^ y) = b4 x ^^^ b4 y := by unfold b4; rw [b1_xor, b1_xor, b1_xor, b1_xor]
theorem b8_xor (x y : BitVec 32) : b8 (x ^^^ y) = b8 x ^^^ b8 y := by unfold b8; rw [b4_xor, b4_xor]

theorem shr_shr (n : BitVec 32) (i j : Nat) : n >>> i >>> j = n >>> (i + j) := by
  apply BitVec.eq_of_getLsbD_eq
  intro k hk
  rw [BitVec.getLsbD_ushiftRight, BitVec.getLsbD_ushiftRight, BitVec.getLsbD_ushiftRight]
  congr 1
  omega
theorem b1_even {n : BitVec 32} (h : n.getLsbD 0 = false) : b1 n = n >>> 1 := by unfold b1; rw [h]; simp
theorem b4_high {n : BitVec 32} (h0 : n.getLsbD 0 = false) (h1 : n.getLsbD 1 = false) (h2 : n.getLsbD 2 = false) (h3 : n.getLsbD 3 = false) : b4 n = n >>> 4 := by
  have e1 : b1 n = n >>> 1 := b1_even h0
  have e2 : b1 (n >>> 1) = n >>> 1 >>> 1 := b1_even (by simpa using h1)
  have e3 : b1 (n >>> 1 >>> 1) = n >>> 1 >>> 1 >>> 1 := b1_even (by simpa using h2)
  have e4 : b1 (n >>> 1 >>> 1 >>> 1) = n >>> 1 >>> 1 >>> 1 >>> 1 := b1_even (by simpa using h3)
  unfold b4
  rw [e1, e2, e3, e4, shr_shr, shr_shr, shr_shr]

/-- The table: what each half of a byte does. -/
def TB : List (BitVec 32) := [0x0#32, 0x1db71064#32, 0x3b6e20c8#32, 0x26d930ac#32, 0x76dc4190#32, 0x6b6b51f4#32, 0x4db26158#32, 0x5005713c#32, 0xedb88320#32, 0xf00f9344#32, 0xd6d6a3e8#32, 0xcb61b38c#32, 0x9b64c2b0#32, 0x86d3d2d4#32, 0xa00ae278#32, 0xbdbdf21c#32]
theorem low_tab : ∀ k : Fin 16, b4 (BitVec.ofNat 32 k.val) = TB.getD k.val 0 := by decide +kernel
theorem split4 (n : BitVec 32) : n = (n &&& 0xfffffff0#32) ^^^ (n &&& 15#32) := by
  have key : ∀ j : Fin 32, (0xfffffff0#32).getLsbD j.val = !(15#32).getLsbD j.val := by decide
  apply BitVec.eq_of_getLsbD_eq
  intro i hi
  rw [BitVec.getLsbD_xor, BitVec.getLsbD_and, BitVec.getLsbD_and, key ⟨i, hi⟩]
  cases n.getLsbD i <;> cases (15#32).getLsbD i <;> rfl
theorem nib_eq (n : BitVec 32) : b4 n = TB.getD (n &&& 15#32).toNat 0 ^^^ (n >>> 4) := by
  have hlow : (n &&& 15#32).toNat < 16 := by
    have := BitVec.toNat_and n 15#32
    rw [this]
    exact Nat.lt_of_le_of_lt Nat.and_le_right (by decide)
  have hl : b4 (n &&& 15#32) = TB.getD (n &&& 15#32).toNat 0 := by
    have := low_tab ⟨(n &&& 15#32).toNat, hlow⟩
    rw [← this]
    simp
  have hh : b4 (n &&& 0xfffffff0#32) = n >>> 4 := by
    rw [b4_high (by simp) (by simp) (by simp) (by simp)]
    ext i hi
    simp
    intro hb
    have hi' : 4 + i < 32 := by
      rcases Nat.lt_or_ge (4 + i) 32 with h | h
      · exact h
      · have := BitVec.getLsbD_of_ge n (4 + i) h
        simp [this] at hb
    have : ∀ j : Fin 32, 4 ≤ j.val → (4294967280#32).getLsbD j.val = true := by decide
    exact this ⟨4 + i, hi'⟩ (by simp)
  conv => lhs; rw [split4 n]
  rw [b4_xor, hh, hl, BitVec.xor_comm]

/-! ### Nothing is lost -/
theorem b1_zero {d : BitVec 32} (h : b1 d = 0#32) : d = 0#32 := by
  unfold b1 at h
  by_cases h0 : d.getLsbD 0 = true
  · rw [if_pos h0] at h
    have h31 := congrArg (fun x : BitVec 32 => x.getLsbD 31) h
    simp [P] at h31
  · rw [if_neg h0] at h
    ext i hi
    cases i with
    | zero => simpa using h0
    | succ i =>
      have := congrArg (fun x : BitVec 32 => x.getLsbD i) h
      simp at this
      rw [BitVec.getElem_zero, ← BitVec.getLsbD_eq_getElem, Nat.add_comm]
      exact this
theorem xor_zero_iff (a b : BitVec 32) : a ^^^ b = 0#32 ↔ a = b := by
  constructor
  · intro h
    have : a ^^^ b ^^^ b = 0#32 ^^^ b := by rw [h]
    rw [BitVec.xor_assoc, BitVec.xor_self, BitVec.xor_zero, BitVec.zero_xor] at this
    exact this
  · rintro rfl; exact BitVec.xor_self
theorem b1_inj {a b : BitVec 32} (h : b1 a = b1 b) : a = b := by
  rw [← xor_zero_iff]
  exact b1_zero (by rw [b1_xor, h, BitVec.xor_self])
theorem b8_inj {a b : BitVec 32} (h : b8 a = b8 b) : a = b := b1_inj (b1_inj (b1_inj (b1_inj (b1_inj (b1_inj (b1_inj (b1_inj h)))))))
theorem run_inj (l : List Int) : ∀ {a b : BitVec 32}, run a l = run b l → a = b := by
  induction l with
  | nil => intro a b h; exact h
  | cons c l ih =>
    intro a b h
    have h2 := b8_inj (ih h)
    have : (a ^^^ by32 c) ^^^ by32 c = (b ^^^ by32 c) ^^^ by32 c := by rw [h2]
    rw [BitVec.xor_assoc, BitVec.xor_assoc, BitVec.xor_self, BitVec.xor_zero, BitVec.xor_zero] at this
    exact this
theorem by32_inj {x y : Int} (hx0 : 0 ≤ x) (hx : x < 256) (hy0 : 0 ≤ y) (hy : y < 256) (h : by32 x = by32 y) : x = y := by
  have := congrArg BitVec.toNat h
  unfold by32 at this
  rw [BitVec.toNat_ofNat, BitVec.toNat_ofNat, Nat.mod_eq_of_lt (by omega), Nat.mod_eq_of_lt (by omega)] at this
  omega
/-- One byte that is another one: another state behind all. -/
theorem run_turned (l : List Int) (n : BitVec 32) (at_ : Nat) (y : Int) (h : at_ < l.length) (hb : ∀ c ∈ l, 0 ≤ c ∧ c < 256) (hy0 : 0 ≤ y) (hy : y < 256) (hne : y ≠ l[at_]) : run n (l.set at_ y) ≠ run n l := by
  intro he
  have e1 : l = l.take at_ ++ l[at_] :: l.drop (at_ + 1) := by rw [← List.drop_eq_getElem_cons h, List.take_append_drop]
  have e2 : l.set at_ y = l.take at_ ++ y :: l.drop (at_ + 1) := by
    rw [List.set_eq_take_append_cons_drop, if_pos h]
  rw [e2] at he
  conv at he => rhs; rw [e1]
  rw [run_append, run_append] at he
  have h2 := b8_inj (run_inj (l.drop (at_ + 1)) (show run (b8 (run n (l.take at_) ^^^ by32 y)) (l.drop (at_ + 1)) = run (b8 (run n (l.take at_) ^^^ by32 l[at_])) (l.drop (at_ + 1)) from he))
  have h3 : by32 y = by32 l[at_] := by
    have := congrArg (fun x => run n (l.take at_) ^^^ x) h2
    simp only [← BitVec.xor_assoc, BitVec.xor_self, BitVec.zero_xor] at this
    exact this
  have hm := hb _ (List.getElem_mem h)
  exact hne (by32_inj hy0 hy hm.1 hm.2 h3)

/-! ### It is linear -/
def xors : List Int → List Int → List Int
  | a :: l, b :: m => ((a.toNat ^^^ b.toNat : Nat) : Int) :: xors l m
  | _, _ => []
theorem by32_xor (a b : Int) : by32 ((a.toNat ^^^ b.toNat : Nat) : Int) = by32 a ^^^ by32 b := by
  unfold by32
  rw [Int.toNat_natCast, BitVec.ofNat_xor]
theorem run_xor (a : List Int) : ∀ (b : List Int) (m n : BitVec 32), a.length = b.length → run (m ^^^ n) (xors a b) = run m a ^^^ run n b := by
  induction a with
  | nil =>
    intro b m n h
    cases b with
    | nil => rfl
    | cons c l => simp at h
  | cons c l ih =>
    intro b m n h
    cases b with
    | nil => simp at h
    | cons d k =>
      simp only [xors, run]
      rw [by32_xor, show m ^^^ n ^^^ (by32 c ^^^ by32 d) = (m ^^^ by32 c) ^^^ (n ^^^ by32 d) by
        rw [BitVec.xor_assoc, BitVec.xor_assoc, ← BitVec.xor_assoc n, BitVec.xor_comm n, BitVec.xor_assoc], b8_xor]
      exact ih k _ _ (by simpa using h)
theorem xors_zero (a : List Int) (ha : ∀ c ∈ a, 0 ≤ c) : xors a (List.replicate a.length 0) = a := by
  induction a with
  | nil => rfl
  | cons c l ih =>
    rw [List.length_cons, List.replicate_succ]
    simp only [xors]
    rw [ih (fun c hc => ha c (List.mem_cons_of_mem _ hc))]
    congr 1
    have := ha c List.mem_cons_self
    simp; omega
theorem not_xor_not (x y : BitVec 32) : ~~~ x ^^^ ~~~ y = x ^^^ y := by
  ext i hi
  simp
theorem like (a b both : List Int) (h : a.length = b.length) (hb : both = xors a b) (hp : ∀ c ∈ both, 0 ≤ c) (hl : both.length = a.length) :
    sumOf both ^^^ sumOf (List.replicate a.length 0) = sumOf a ^^^ sumOf b := by
  rw [sumOf_eq, sumOf_eq, sumOf_eq, sumOf_eq, not_xor_not, not_xor_not, ← run_xor a b _ _ h, ← hb, ← run_xor both (List.replicate a.length 0) _ _ (by rw [List.length_replicate, hl]), ← hl, xors_zero both hp]

/-! ### With its own sum behind it -/
theorem b8_high {n : BitVec 32} (h : ∀ i, i < 8 → n.getLsbD i = false) : b8 n = n >>> 8 := by
  unfold b8
  rw [b4_high (h 0 (by omega)) (h 1 (by omega)) (h 2 (by omega)) (h 3 (by omega)), b4_high (by simpa using h 4 (by omega)) (by simpa using h 5 (by omega)) (by simpa using h 6 (by omega)) (by simpa using h 7 (by omega)), shr_shr]
theorem b8_shift (c : BitVec 32) (hc : ∀ i, 24 ≤ i → c.getLsbD i = false) : b8 (c <<< 8) = c := by
  rw [b8_high (fun i hi => by simp; omega)]
  apply BitVec.eq_of_getLsbD_eq
  intro i hi
  rw [BitVec.getLsbD_ushiftRight, BitVec.getLsbD_shiftLeft]
  by_cases h : 24 ≤ i
  · rw [hc i h, hc (8 + i - 8) (by omega)]; simp
  · rw [show 8 + i - 8 = i by omega, decide_eq_true (by omega : 8 + i < 32), decide_eq_false (by omega : ¬ 8 + i < 8)]; rfl
/-- The four bytes of a number. -/
def part (n : BitVec 32) (k : Nat) : BitVec 32 := (n >>> k) &&& 255#32
theorem part_high (n : BitVec 32) (k i : Nat) (h : 8 ≤ i) : (part n k).getLsbD i = false := by
  unfold part
  rw [BitVec.getLsbD_and]
  rcases Nat.lt_or_ge i 32 with hi | hi
  · have : ∀ j : Fin 32, 8 ≤ j.val → (255#32).getLsbD j.val = false := by decide
    rw [this ⟨i, hi⟩ h, Bool.and_false]
  · rw [BitVec.getLsbD_of_ge _ _ hi, Bool.false_and]
theorem parts_all (n : BitVec 32) : part n 0 ^^^ (part n 8 ^^^ (part n 16 ^^^ part n 24 <<< 8) <<< 8) <<< 8 = n := by
  have key : ∀ j : Fin 8, (255#32).getLsbD j.val = true := by decide
  apply BitVec.eq_of_getLsbD_eq
  intro i hi
  simp only [BitVec.getLsbD_xor, BitVec.getLsbD_shiftLeft]
  have hp : ∀ k j, (part n k).getLsbD j = (decide (j < 8) && n.getLsbD (k + j)) := by
    intro k j
    rcases Nat.lt_or_ge j 8 with h | h
    · unfold part
      rw [BitVec.getLsbD_and, key ⟨j, h⟩, BitVec.getLsbD_ushiftRight]
      simp [h]
    · rw [part_high n k j h]
      simp; omega
  simp only [hp]
  by_cases h1 : i < 8
  · simp [h1]
  · by_cases h2 : i < 16
    · have e : 8 + (i - 8) = i := by omega
      simp [h1, hi, e, show i - 8 < 8 by omega, show i - 8 < 32 by omega]
    · by_cases h3 : i < 24
      · have e : 16 + (i - 8 - 8) = i := by omega
        simp [h1, hi, e, show ¬ i - 8 < 8 by omega, show i - 8 < 32 by omega, show i - 8 - 8 < 8 by omega, show i - 8 - 8 < 32 by omega]
      · have e : 24 + (i - 8 - 8 - 8) = i := by omega
        simp [h1, hi, e, show ¬ i - 8 < 8 by omega, show i - 8 < 32 by omega, show ¬ i - 8 - 8 < 8 by omega, show i - 8 - 8 < 32 by omega, show i - 8 - 8 - 8 < 8 by omega]
theorem four_bytes (s n : BitVec 32) : b8 (b8 (b8 (b8 (s ^^^ part n 0) ^^^ part n 8) ^^^ part n 16) ^^^ part n 24) = b8 (b8 (b8 (b8 (s ^^^ n)))) := by
  have h24 : part n 24 = b8 (part n 24 <<< 8) := (b8_shift _ (fun i hi => part_high n 24 i (by omega))).symm
  have hx : ∀ i, 24 ≤ i → (part n 16 ^^^ part n 24 <<< 8).getLsbD i = false := by
    intro i hi
    rw [BitVec.getLsbD_xor, part_high n 16 i (by omega), BitVec.getLsbD_shiftLeft, part_high n 24 (i - 8) (by omega)]
    simp
  have hy : ∀ i, 24 ≤ i → (part n 8 ^^^ (part n 16 ^^^ part n 24 <<< 8) <<< 8).getLsbD i = false := by
    intro i hi
    rw [BitVec.getLsbD_xor, part_high n 8 i (by omega), BitVec.getLsbD_shiftLeft, BitVec.getLsbD_xor, part_high n 16 (i - 8) (by omega), BitVec.getLsbD_shiftLeft, part_high n 24 (i - 8 - 8) (by omega)]
    simp
  have e1 : ∀ z, b8 z ^^^ part n 24 = b8 (z ^^^ part n 24 <<< 8) := fun z => by rw [b8_xor, ← h24]
  have e2 : ∀ z, b8 z ^^^ (part n 16 ^^^ part n 24 <<< 8) = b8 (z ^^^ (part n 16 ^^^ part n 24 <<< 8) <<< 8) := fun z => by rw [b8_xor, b8_shift _ hx]
  have e3 : ∀ z, b8 z ^^^ (part n 8 ^^^ (part n 16 ^^^ part n 24 <<< 8) <<< 8) = b8 (z ^^^ (part n 8 ^^^ (part n 16 ^^^ part n 24 <<< 8) <<< 8) <<< 8) := fun z => by rw [b8_xor, b8_shift _ hy]
  rw [e1, BitVec.xor_assoc, e2, BitVec.xor_assoc, e3, BitVec.xor_assoc, parts_all]
theorem residue (l : List Int) (c0 c1 c2 c3 : Int) (h0 : by32 c0 = part (sumOf l) 0) (h1 : by32 c1 = part (sumOf l) 8) (h2 : by32 c2 = part (sumOf l) 16) (h3 : by32 c3 = part (sumOf l) 24) :
    upd (sumOf l) [c0, c1, c2, c3] = sumOf [0, 0, 0, 0] := by
  rw [sumOf_eq [0, 0, 0, 0]]
  unfold upd
  congr 1
  simp only [run]
  rw [h0, h1, h2, h3, four_bytes, show (~~~ sumOf l ^^^ sumOf l : BitVec 32) = 4294967295#32 by
    have key : ∀ j : Fin 32, (4294967295#32).getLsbD j.val = true := by decide +kernel
    apply BitVec.eq_of_getLsbD_eq
    intro i hi
    rw [key ⟨i, hi⟩, BitVec.getLsbD_xor, BitVec.getLsbD_not, decide_eq_true hi]
    cases (sumOf l).getLsbD i <;> rfl]
  simp [by32]
end Go.Proofs.YtmoidifdbpjinaaDoor.Crc
