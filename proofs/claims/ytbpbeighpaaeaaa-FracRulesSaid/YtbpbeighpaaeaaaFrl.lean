/- Plain law of FracRules. -/
import Derived.Test.YtbpbeighpaaeaaaFs
import Derived.Test.YtbpbeighpaaeaaaGrld
namespace Go.Proofs.Ytbpbeighpaaeaaa.Fr
open Go.RowKit Go.Proofs.YtbpbeighpaaeaaaW.PrintWords Go.Proofs.YtbpbeighpaaeaaaW.PrintLast Go.Proofs.YtbpbeighpaaeaaaW.PrintMore Go.Proofs.Ytbpbeighpaaeaaa.G
set_option linter.unusedVariables false
set_option linter.unusedSimpArgs false

/-- A fraction of bounded parts. -/
def bd (r : Rat) (p q : Nat) : Prop := r.num.natAbs ≤ p ∧ r.den ≤ q
theorem bd_small {r : Rat} {p q : Nat} (h : bd r p q) (hp : p ≤ 1073741824) (hq : q ≤ 1073741824) : small r := by
  obtain ⟨h1, h2⟩ := h; exact ⟨by omega, by omega, by omega⟩
theorem R_num_den (r : Rat) : r = R r.num r.den := (R_self r).symm
theorem bd_R {n d : Int} (hd : 0 < d) : bd (R n d) n.natAbs d.natAbs := by
  refine ⟨num_bd hd, ?_⟩
  have := den_bd (n := n) hd
  omega
theorem bd_add {a b : Rat} {p q p' q' : Nat} (ha : bd a p q) (hb : bd b p' q') : bd (a + b) (p * q' + p' * q) (q * q') := by
  have da := a.den_pos
  have db := b.den_pos
  have e : a + b = R (a.num * b.den + b.num * a.den) (a.den * b.den) := by
    conv => lhs; rw [R_num_den a, R_num_den b]
    unfold R; rw [Rat.divInt_add_divInt _ _ (by omega) (by omega)]
  have hpos : (0 : Int) < (a.den : Int) * (b.den : Int) := Int.mul_pos (by omega) (by omega)
  have h := bd_R (n := a.num * b.den + b.num * a.den) hpos
  rw [← e] at h
  have m1 : (a.num * b.den).natAbs ≤ p * q' := by rw [Int.natAbs_mul]; exact Nat.mul_le_mul ha.1 (by simpa using hb.2)
  have m2 : (b.num * a.den).natAbs ≤ p' * q := by rw [Int.natAbs_mul]; exact Nat.mul_le_mul hb.1 (by simpa using ha.2)
  have m3 : ((a.den : Int) * (b.den : Int)).natAbs ≤ q * q' := by rw [Int.natAbs_mul]; exact Nat.mul_le_mul (by simpa using ha.2) (by simpa using hb.2)
  exact ⟨by have := h.1; omega, by have := h.2; omega⟩
theorem bd_mul {a b : Rat} {p q p' q' : Nat} (ha : bd a p q) (hb : bd b p' q') : bd (a * b) (p * p') (q * q') := by
  have da := a.den_pos
  have db := b.den_pos
  have e : a * b = R (a.num * b.num) (a.den * b.den) := by
    conv => lhs; rw [R_num_den a, R_num_den b]
    unfold R; rw [Rat.divInt_mul_divInt]
  have hpos : (0 : Int) < (a.den : Int) * (b.den : Int) := Int.mul_pos (by omega) (by omega)
  have h := bd_R (n := a.num * b.num) hpos
  rw [← e] at h
  have m1 : (a.num * b.num).natAbs ≤ p * p' := by rw [Int.natAbs_mul]; exact Nat.mul_le_mul ha.1 hb.1
  have m3 : ((a.den : Int) * (b.den : Int)).natAbs ≤ q * q' := by rw [Int.natAbs_mul]; exact Nat.mul_le_mul (by simpa using ha.2) (by simpa using hb.2)
  exact ⟨by have := h.1; omega, by have := h.2; omega⟩
/-- Sums and products of fractions told as Rat. -/
theorem add_r {k : Nat} (hk : 4611686018427387920 ≤ k) {a b : Rat} (ha : small a) (hb : small b) (hs : small (a + b)) : frac_Frac_Add.f k a.num a.den false b.num b.den false = some ((a + b).num, ((a + b).den : Int), false) := by
  rw [add_eq hk, fine_of ha, fine_of hb]; unfold two R; rw [if_pos (by decide), Rat.num_divInt_den, Rat.num_divInt_den, ofR_small hs]
theorem sub_r {k : Nat} (hk : 4611686018427387920 ≤ k) {a b : Rat} (ha : small a) (hb : small b) (hs : small (a - b)) : frac_Frac_Sub.f k a.num a.den false b.num b.den false = some ((a - b).num, ((a - b).den : Int), false) := by
  rw [sub_eq hk, fine_of ha, fine_of hb]; unfold two R; rw [if_pos (by decide), Rat.num_divInt_den, Rat.num_divInt_den, ofR_small hs]
theorem mul_r {k : Nat} (hk : 4611686018427387920 ≤ k) {a b : Rat} (ha : small a) (hb : small b) (hs : small (a * b)) : frac_Frac_Mul.f k a.num a.den false b.num b.den false = some ((a * b).num, ((a * b).den : Int), false) := by
  rw [mul_eq hk, fine_of ha, fine_of hb]; unfold two R; rw [if_pos (by decide), Rat.num_divInt_den, Rat.num_divInt_den, ofR_small hs]
theorem div_r {k : Nat} (hk : 4611686018427387920 ≤ k) {a b : Rat} (ha : small a) (hb : small b) (h0 : b.num ≠ 0) (hs : small (a / b)) : frac_Frac_Div.f k a.num a.den false b.num b.den false = some ((a / b).num, ((a / b).den : Int), false) := by
  rw [div_eq hk, fine_of ha, fine_of hb, div_R (fine_of ha) (fine_of hb) h0]; unfold two R; rw [if_pos (by decide), Rat.num_divInt_den, Rat.num_divInt_den, ofR_small hs]
theorem neg_r {k : Nat} (hk : 4611686018427387920 ≤ k) {a : Rat} (ha : small a) : frac_Frac_Neg.f k a.num a.den false = some ((-a).num, ((-a).den : Int), false) := by
  rw [neg_eq hk, fine_of ha, if_pos rfl, Rat.neg_num, Rat.neg_den]
theorem fracRules_r {k : Nat} (hk : 4611686018427387930 ≤ k) (a b c : Rat) (ha : bd a 128 128) (hb : bd b 128 128) (hc : bd c 128 128) :
    coupletlaw04_FracRules.f k a.num a.den false b.num b.den false c.num c.den false = some true := by
  obtain ⟨k, rfl⟩ : ∃ n, k = n + 1 := ⟨k - 1, by omega⟩
  have sa := bd_small ha (by decide) (by decide)
  have sb := bd_small hb (by decide) (by decide)
  have sc := bd_small hc (by decide) (by decide)
  have bab := bd_add ha hb
  have sab := bd_small bab (by decide) (by decide)
  have bbc := bd_add hb hc
  have sbc := bd_small bbc (by decide) (by decide)
  have sabc := bd_small (bd_add bab hc) (by decide) (by decide)
  have mab := bd_mul ha hb
  have smab := bd_small mab (by decide) (by decide)
  have mbc := bd_mul hb hc
  have smbc := bd_small mbc (by decide) (by decide)
  have mac := bd_mul ha hc
  have smac := bd_small mac (by decide) (by decide)
  have smabc := bd_small (bd_mul mab hc) (by decide) (by decide)
  have e1 : b + a = a + b := by grind
  have e2 : b * a = a * b := by grind
  have e3 : a + (b + c) = a + b + c := by grind
  have e4 : a * (b * c) = a * b * c := by grind
  have e5 : a + b - b = a := by grind
  have e6 : a * b + a * c = a * (b + c) := by grind
  have e7 : - -a = a := by grind
  have sdist := bd_small (bd_mul ha bbc) (by decide) (by decide)
  have sna : small (-a) := by obtain ⟨q1, q2, q3⟩ := sa; exact ⟨by rw [Rat.neg_num]; omega, by rw [Rat.neg_num]; omega, by rw [Rat.neg_den]; omega⟩
  unfold coupletlaw04_FracRules.f
  rw [add_r (by omega) sa sb sab, add_r (by omega) sb sa (by rw [e1]; exact sab), mul_r (by omega) sa sb smab, mul_r (by omega) sb sa (by rw [e2]; exact smab), e1, e2]
  simp only [Option.bind_some]
  rw [add_r (by omega) sab sc sabc, add_r (by omega) sb sc sbc, mul_r (by omega) smab sc smabc, mul_r (by omega) sb sc smbc]
  simp only [Option.bind_some]
  rw [add_r (by omega) sa sbc (by rw [e3]; exact sabc), mul_r (by omega) sa smbc (by rw [e4]; exact smabc), sub_r (by omega) sab sb (by rw [e5]; exact sa), e3, e4, e5]
  simp only [Option.bind_some, beq_self_eq_true, Bool.not_true, Bool.or_self, Bool.false_eq_true, if_false]
  unfold coupletlaw04_FracRules.j0
  dsimp only
  rw [if_neg (by decide), add_r (by omega) sb sc sbc, mul_r (by omega) sa sb smab, mul_r (by omega) sa sc smac, neg_r (by omega) sa, awake_eq (by omega)]
  simp only [Option.bind_some]
  rw [mul_r (by omega) sa sbc sdist, add_r (by omega) smab smac (by rw [e6]; exact sdist), neg_r (by omega) sna, e6, e7]
  simp only [Option.bind_some, beq_self_eq_true, Bool.and_self, if_true]
  by_cases h0 : b.num = 0
  · rw [if_pos h0]
  · rw [if_neg h0]
    have hb0 : b ≠ 0 := by intro h; exact h0 (by rw [h]; rfl)
    have e8 : a * b / b = a := by grind
    rw [div_r (by omega) smab sb h0 (by rw [e8]; exact sa), e8]
    simp only [Option.bind_some, beq_self_eq_true, Bool.and_self, if_true]
theorem fracRules {k : Nat} (hk : 4611686018427387930 ≤ k) (a0 a1 : Int) (a2 : Bool) (b0 b1 : Int) (b2 : Bool) (c0 c1 : Int) (c2 : Bool)
    (h : (fineP a0 a1 a2 = true ∧ -128 ≤ a0 ∧ a0 ≤ 128 ∧ a1 ≤ 128) ∧ (fineP b0 b1 b2 = true ∧ -128 ≤ b0 ∧ b0 ≤ 128 ∧ b1 ≤ 128) ∧ (fineP c0 c1 c2 = true ∧ -128 ≤ c0 ∧ c0 ≤ 128 ∧ c1 ≤ 128)) :
    coupletlaw04_FracRules.f k a0 a1 a2 b0 b1 b2 c0 c1 c2 = some true := by
  obtain ⟨⟨fa, a3, a4, a5⟩, ⟨fb, b3, b4, b5⟩, ⟨fc, c3, c4, c5⟩⟩ := h
  obtain ⟨x1, x2, x3, x4⟩ := fine_R fa
  obtain ⟨y1, y2, y3, y4⟩ := fine_R fb
  obtain ⟨z1, z2, z3, z4⟩ := fine_R fc
  have h := fracRules_r hk (R a0 a1) (R b0 b1) (R c0 c1) ⟨by rw [x1]; omega, by omega⟩ ⟨by rw [y1]; omega, by omega⟩ ⟨by rw [z1]; omega, by omega⟩
  rw [x1, x2, y1, y2, z1, z2] at h
  rw [x4, y4, z4]
  exact h
end Go.Proofs.Ytbpbeighpaaeaaa.Fr
