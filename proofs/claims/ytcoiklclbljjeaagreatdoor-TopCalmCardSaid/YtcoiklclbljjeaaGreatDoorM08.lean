/- Lemmas of the card's proof. -/
import Derived.Test.YtcoiklclbljjeaaGreatDoorM07
set_option linter.unusedVariables false
set_option linter.unusedSimpArgs false
set_option maxRecDepth 100000
set_option maxHeartbeats 16000000
namespace Go.Proofs.YtcoiklclbljjeaaGreatDoor.L
open Go.RowKit
theorem Xah {P : Prop} (h : P := by
 have hXor : bits .or .u64 (z8 Q K) (IntKind.u64.wrap (2 ^ (62 - K))) = X := by rw [← hX]; exact zjw Q K hlt
 have hXb : 0 ≤ X ∧ X < 18446744073709551616 := by
  obtain ⟨b0, b1, _⟩ := vp Q K (by omega);have e := zaK hlt;have hp : (0 : Int) < 2 ^ (62 - K) := Int.pow_pos (by decide);omega
 have hT := za (fun W => zS X X hXb hXb W);have hL := za (fun W => Zf p0 p1 (hi X X) (lo X X) W);have hcmp := zf5 (x := X) (y := X) HQ.out hp1
 by_cases hlow : Q < X * X
 ·have hnext := za (show z8 Q (K + 1) = z8 Q K by show yj _ _ _ = _; unfold yj; rw [hX, if_pos hlow])
  rw [decide_eq_true hlow] at hcmp;clear hX hlow;go_wp2;refine qO (by kernel_rfl) (by kernel_rfl) ?_;have kc0 := fun x => Ext.cell hc0 x;have kc1 := fun x => Ext.cell hc1 x
  repeat (go_big_quiet_step ((first | (go_at_call 97; exact Calls.ext _ (hT.out _)) | (go_at_call 99; exact Calls.ext _ (hL.out _)))))
  refine wpQuiet_nil ?_;rintro _ ⟨x, rfl⟩;have hA2 := za (hAt.out.below x.below);have hB2 := za (zj hBe.out x.below);clear kc0 kc1;go_wp2;go_roundw
  case rel => exact ⟨K + 1, by omega, by go_num, by rw [hnext.out], hA2, hB2⟩
  case measure => simp [intOf]; omega
 ·have hnext := za (show z8 Q (K + 1) = X by show yj _ _ _ = _; unfold yj; rw [hX, if_neg hlow])
  rw [decide_eq_false hlow] at hcmp;clear hX hlow;go_wp2;refine qO (by kernel_rfl) (by kernel_rfl) ?_;have kc0 := fun x => Ext.cell hc0 x;have kc1 := fun x => Ext.cell hc1 x
  repeat (go_big_quiet_step ((first | (go_at_call 97; exact Calls.ext _ (hT.out _)) | (go_at_call 99; exact Calls.ext _ (hL.out _)))))
  refine wpQuiet_nil ?_;rintro _ ⟨x, rfl⟩;have hA2 := za (hAt.out.below x.below);have hB2 := za (zj hBe.out x.below);clear kc0 kc1;go_wp2;go_roundw
  case rel => exact ⟨K + 1, by omega, by go_num, by rw [hnext.out], hA2, hB2⟩
  case measure => simp [intOf]; omega) : P := h
theorem Xan {P : Prop} (h : P := by
 rw [hW0] at hA hBB ⊢;clear hg hW0 hB1 w1
 go_loopw [9, 10, 11, 47] (fun r k x i W => ∃ K : Nat, K ≤ 63 ∧ i = .int .i64 K ∧ r = .int .u64 (z8 Q K) ∧ Hid (At W g 158 #[.int .u64 p0, .int .u64 p1]) ∧ Hid (Below w.heap.size w W)) (fun _ _ _ i _ => 63 - (intOf i).toNat)
 case atStart => exact ⟨0, by omega, rfl, rfl, hA, hBB⟩
 case round =>
  obtain ⟨K, hK, rfl, rfl, hAt, hBe⟩ := hrel;have hc0 := hAt.out.cell 0;have hc1 := hAt.out.cell 1
  by_cases hlt : K < 63
  ·obtain ⟨X, hX⟩ := zc (z8 Q K + 2 ^ (62 - K))
   exact Xah
  ·obtain rfl : K = 63 := by omega
   have hR := HR.out;have hR0 : 0 ≤ R := by rw [← hR]; exact (vp Q 63 (by omega)).1
   have hT := za (fun W => zS R R (by omega) (by omega) W);have hT2 := za (fun W => zS R (R + 1) (by omega) (by omega) W);have hL := za (fun W => Zf (hi R (R + 1)) (lo R (R + 1)) p0 p1 W);have hcmp := zeh (x := R) (y := R + 1) HQ.out hp1;have heq2 := zgd (x := R) (y := R) HQ.out hp1;have hE := zjA (hi R R) (lo R R) p0 p1;rw [heq2] at hE;obtain ⟨E, hEE⟩ := zc ((R * R == Q));obtain ⟨N, hNN⟩ := zc (decide (R * (R + 1) < Q))
   have hn := HN.out;unfold ZN at hn;rw [hEE, hNN] at hn;rw [hEE] at hE;rw [hNN] at hcmp;clear hEE hNN heq2;obtain ⟨B2, hB2⟩ := zc ((m == 2));obtain ⟨B0, hB0⟩ := zc ((m == 0));rw [hB2, hB0] at hn;cases E <;> cases B2 <;> cases B0 <;> cases N
   all_goals
    have Hn := za hn;clear hn;go_wp2;refine qO (by kernel_rfl) (by kernel_rfl) ?_;have kc0 := fun x => Ext.cell hc0 x;have kc1 := fun x => Ext.cell hc1 x
    repeat (go_big_quiet_step ((first | (go_at_call 97; exact Calls.ext _ (hT.out _)))))
    refine wpQuiet_nil ?_;rintro _ ⟨x, rfl⟩;have hA2 := za (hAt.out.below x.below);have hB3 := za (zj hBe.out x.below);clear kc0 kc1;have hd0 := hA2.out.cell 0;have hd1 := hA2.out.cell 1;go_wp2;refine qO (by kernel_rfl) (by kernel_rfl) ?_;have kc0 := fun x => Ext.cell hd0 x;have kc1 := fun x => Ext.cell hd1 x
    repeat (go_big_quiet_step ((first | (go_at_call 97; exact Calls.ext _ (hT2.out _)) | (go_at_call 99; exact Calls.ext _ (hL.out _)))))
    refine wpQuiet_nil ?_;rintro _ ⟨y, rfl⟩;have hB4 := za (zj hB3.out y.below);clear kc0 kc1;go_wp2
    go_ret2
    exact ⟨by rw [← Hn.out]; rfl, hB4.out⟩) : P := h
theorem Xax {P : Prop} (h : P := by
 have ba := zt.mp ha
 have Sa := za (show ∀ W, Calls Tryz.prog 98 #[a] W fun e w' => e = .returned (.int .u64 a) ∧ W = w' from fun W => by
  have := zy a W (zt.mp ha).1 (zt.mp ha).2; rw [zaO (by omega)] at this; exact this)
 have Sb := za (show ∀ W, Calls Tryz.prog 98 #[.int .i64 16777216] W fun e w' => e = .returned (.int .u64 16777216) ∧ W = w' from fun W => zy 16777216 W (by decide) (by decide));have T := za (show ∀ W, Calls Tryz.prog 97 #[.int .u64 a, .int .u64 16777216] W fun e w' => e = .returned (.agg #[.int .u64 p0, .int .u64 p1]) ∧ Below W.heap.size W w' from fun W => by rw [← H0.out, ← H1.out]; exact zS a 16777216 (by omega) (by decide) W)
 have hW : inW 16777216 = true := by decide
 have hlt : decide (a < 0) = false := decide_eq_false (by omega);have HQ := za hQ;have HQ1 := za hQ1;have HR := za hR;have HN := za hn;clear hQ hQ1 hR hn;go_enter Tryz.func242, Tryz.ntmps242;go_wp2_with (first | (go_at_call 64; refine (zw _ _).mono ?_; rintro e w' ⟨rfl, rfl⟩) | (go_at_call 184; refine (zx _ _).mono ?_; rintro e w' ⟨rfl, rfl⟩) | (go_at_call 98; (with_reducible refine (Sa.out _).mono ?_); rintro e w' ⟨rfl, rfl⟩) | (go_at_call 98; (with_reducible refine (Sb.out _).mono ?_); rintro e w' ⟨rfl, rfl⟩) | (go_at_call 97; (with_reducible refine (T.out _).mono ?_); rintro e w1 ⟨rfl, hb1⟩; have hB1 := za hb1; clear hb1))
 obtain ⟨g, hg⟩ := zc (w1.heap.size);have hA := za (At.new w1 158 #[.int .u64 p0, .int .u64 p1]);have hBB := za (zg hB1.out (.cells #[.int .u64 p0, .int .u64 p1] 158));obtain ⟨W0, hW0⟩ := zc (w1.alloc (.cells #[.int .u64 p0, .int .u64 p1] 158));rw [hg] at hA ⊢;exact Xan) : P := h
def ZN (Q R m : Int) : Bool := !(R * R == Q) && (m == 2 || (m == 0 && decide (R * (R + 1) < Q)))
def QC (a m : Int) : Int × Bool :=
 if (inW a && je m && !decide (a < 0)) = true then (if ZN (a * 16777216) (z8 (a * 16777216) 63) m then z8 (a * 16777216) 63 + 1 else z8 (a * 16777216) 63, true) else (0, false)
theorem zi8 : ∃ i, Tryz.prog.info? 137 = some i := Option.isSome_iff_exists.mp (show (Tryz.prog.info? 137).isSome = true by kernel_rfl)
theorem zjA (a b c d : Int) (w : World) : (binOp .eql 158 (.agg #[.int .u64 a, .int .u64 b]) (.agg #[.int .u64 c, .int .u64 d])).run Tryz.prog w = .ok (.bool (a == c && b == d)) w := by
 have hu : Tryz.prog.underlying 158 = some (.array 2 137) := by kernel_rfl
 have hc : Tryz.prog.cellsOf 137 = 1 := by kernel_rfl
 have h7 : Tryz.prog.underlying 137 = some (.int .u64) := by kernel_rfl
 have p0 : ∀ (x y : Int) (w : World), (part 137 #[.int .u64 x, .int .u64 y] 0).run Tryz.prog w = .ok (.int .u64 x) w := fun x y w => by kernel_rfl
 have p1 : ∀ (x y : Int) (w : World), (part 137 #[.int .u64 x, .int .u64 y] 1).run Tryz.prog w = .ok (.int .u64 y) w := fun x y w => by kernel_rfl
 obtain ⟨i, hi⟩ := zi8;have h := run_equalIn_array (P := Tryz.prog) w 9999 (t := 158) #[.int .u64 a, .int .u64 b] #[.int .u64 c, .int .u64 d] hu hi;rw [run_eql_struct, h, hc];have e : List.range 2 = [0, 1] := rfl;rw [e];simp only [Op.eqItems, Sem.run_bind, Nat.zero_mul, Nat.one_mul, p0, p1, Result.andThen_ok, run_equalIn_int w 9998 137 .u64 .u64 _ _ h7];have hq := fun x y => run_equalIn_int (P := Tryz.prog) w 9998 137 .u64 .u64 x y h7
 cases (a == c) <;> cases hbd : (b == d) <;> simp [p1, hq, hbd]
theorem zgE (a m : Int) (w : World) (ha : inW a = true) (ha0 : 0 ≤ a) (hm : je m = true) (hz : (a != 0) = true)
  (Q p0 p1 : Int) (hQ : Q = p0 * 18446744073709551616 + p1) (hQ1 : 0 ≤ Q ∧ Q < 2 ^ 126) (hp0 : 0 ≤ p0 ∧ p0 < 18446744073709551616) (hp1 : 0 ≤ p1 ∧ p1 < 18446744073709551616)
  (H0 : Hid (hi a 16777216 = p0)) (H1 : Hid (lo a 16777216 = p1)) (R : Int) (hR : z8 Q 63 = R) (hR2 : R < 4611686018427387904) (n : Int) (hn : (if ZN Q R m then R + 1 else R) = n) :
  Calls Tryz.prog 242 #[a, .int .i64 16777216, m] w fun e w' => e = .returned (.tuple #[n, .bool true]) ∧ Below w.heap.size w w' := by
 exact Xax
theorem ze5 (a m : Int) (w : World) (ha : inW a = true) (ha0 : 0 ≤ a) (hm : je m = true) (hz : (a != 0) = false)
  (Q p0 p1 : Int) (hQ : Q = p0 * 18446744073709551616 + p1) (hQ1 : 0 ≤ Q ∧ Q < 2 ^ 126) (hp0 : 0 ≤ p0 ∧ p0 < 18446744073709551616) (hp1 : 0 ≤ p1 ∧ p1 < 18446744073709551616)
  (H0 : Hid (hi a 16777216 = p0)) (H1 : Hid (lo a 16777216 = p1)) (R : Int) (hR : z8 Q 63 = R) (hR2 : R < 4611686018427387904) (n : Int) (hn : (if ZN Q R m then R + 1 else R) = n) :
  Calls Tryz.prog 242 #[a, .int .i64 16777216, m] w fun e w' => e = .returned (.tuple #[n, .bool true]) ∧ Below w.heap.size w w' := by
 exact Xax
theorem XaM {P : Prop} (h : P := by
 go_wp2_with (first | (go_at_call 180; (with_reducible refine (HC.out _).mono ?_); rintro e w1 ⟨rfl, hb1⟩; have hB1 := za hb1; clear hb1) | (go_at_call 239; (with_reducible refine (HT.out _ _ (At.new _ _ _)).mono ?_); rintro e w2 ⟨rfl, hb2⟩; have hB2 := za (zj (zg hB1.out _) hb2); clear hb2))
 go_ret2
 exact ⟨rfl, hB2.out⟩) : P := h
def vu (a b m : Int) : Int × Bool := vo (jB a b 16777216 m).1 (jB a b 16777216 m).2 [a, b]
def jN (a b m : Int) : Int × Bool := vo (jB a 16777216 b m).1 (jB a 16777216 b m).2 [a, b]
def fof (n : Int) : Int × Bool := vo (jB n 16777216 1 0).1 (jB n 16777216 1 0).2 []
theorem zj9 (n : Int) (is : Bool) (a : Int) (g : Nat) (w : World) (h : At w g 3 #[a]) :
  Calls Tryz.prog 239 #[n, is, .slice (some ⟨g, 0, none⟩) 1 1] w fun e w' => e = .returned (.tuple #[.int .i64 (vo n is [a]).1, .bool (vo n is [a]).2]) ∧ Below w.heap.size w w' :=
 zdj n is (some ⟨g, 0, none⟩) [a] w (by simp) (fun h => by cases h) (fun b hb j u hj => by
  cases hb
  match j, hj with
  | 0, hj => simp at hj; subst hj; exact h.cell 0
  | j + 1, hj => simp at hj)
theorem zjt (n : Int) (is : Bool) (a b : Int) (g : Nat) (w : World) (h : At w g 3 #[a, b]) :
  Calls Tryz.prog 239 #[n, is, .slice (some ⟨g, 0, none⟩) 2 2] w fun e w' => e = .returned (.tuple #[.int .i64 (vo n is [a, b]).1, .bool (vo n is [a, b]).2]) ∧ Below w.heap.size w w' :=
 zdj n is (some ⟨g, 0, none⟩) [a, b] w (by simp) (fun h => by cases h) (fun b hb j u hj => by
  cases hb
  match j, hj with
  | 0, hj => simp at hj; subst hj; exact h.cell 0
  | 1, hj => simp at hj; subst hj; exact h.cell 1
  | j + 2, hj => simp at hj)
theorem zjZ (a b m : Int) (w : World) : Calls Tryz.prog 233 #[a, b, m] w fun e w' => e = .returned (.tuple #[.int .i64 (vu a b m).1, .bool (vu a b m).2]) ∧ Below w.heap.size w w' := by
 have C := QP a b 16777216 m;unfold vu;generalize jB a b 16777216 m = p at C ⊢;obtain ⟨n, is⟩ := p;obtain ⟨x, hx⟩ := zc ((vo n is [a, b]));have T := fun (g : Nat) (W : World) (h : At W g 3 #[a, b]) => zjt n is a b g W h;simp only [hx] at T ⊢;have HC := za C;have HT := za T;clear C T hx;obtain ⟨y, k⟩ := x;go_enter Tryz.func233, Tryz.ntmps233;exact XaM
theorem zj0 (a b m : Int) (w : World) : Calls Tryz.prog 231 #[a, b, m] w fun e w' => e = .returned (.tuple #[.int .i64 (jN a b m).1, .bool (jN a b m).2]) ∧ Below w.heap.size w w' := by
 have C := QP a 16777216 b m;unfold jN;generalize jB a 16777216 b m = p at C ⊢;obtain ⟨n, is⟩ := p;obtain ⟨x, hx⟩ := zc ((vo n is [a, b]));have T := fun (g : Nat) (W : World) (h : At W g 3 #[a, b]) => zjt n is a b g W h;simp only [hx] at T ⊢;have HC := za C;have HT := za T;clear C T hx;obtain ⟨y, k⟩ := x;go_enter Tryz.func231, Tryz.ntmps231;exact XaM
theorem zkm (n : Int) (w : World) : Calls Tryz.prog 234 #[n] w fun e w' => e = .returned (.tuple #[.int .i64 (fof n).1, .bool (fof n).2]) ∧ Below w.heap.size w w' := by
 have C := QP n 16777216 1 0;unfold fof;generalize jB n 16777216 1 0 = p at C ⊢;obtain ⟨q, is⟩ := p;obtain ⟨x, hx⟩ := zc ((vo q is []));have T := fun (W : World) => zhF q is W;simp only [hx] at T ⊢;have HC := za C;have HT := za T;clear C T hx;obtain ⟨y, k⟩ := x;go_enter Tryz.func234, Tryz.ntmps234;go_wp2_with (first | (go_at_call 180; (with_reducible refine (HC.out _).mono ?_); rintro e w1 ⟨rfl, hb1⟩; have hB1 := za hb1; clear hb1) | (go_at_call 239; (with_reducible refine (HT.out _).mono ?_); rintro e w2 ⟨rfl, hb2⟩; have hB2 := za (zj hB1.out hb2); clear hb2))
 go_ret2
 exact ⟨rfl, hB2.out⟩
theorem ziX (a m : Int) (w : World) (h : (inW a && je m && !decide (a < 0)) = false) :
  Calls Tryz.prog 242 #[a, .int .i64 16777216, m] w fun e w' => e = .returned (.tuple #[.int .i64 (QC a m).1, .bool (QC a m).2]) ∧ Below w.heap.size w w' := by
 have E := za (show QC a m = (0, false) by unfold QC; rw [h]; rfl);have hW : inW 16777216 = true := by decide
 rcases Bool.eq_false_or_eq_true (inW a) with ha | ha
 ·rcases Bool.eq_false_or_eq_true (je m) with hm | hm
  ·have hlt : a < 0 := by
    rw [ha, hm] at h; simpa using h
   have h1 : (a != 0) = true := by simp; omega
   have h2 : decide (a < 0) = true := decide_eq_true hlt;clear h hlt;go_enter Tryz.func242, Tryz.ntmps242;exact Xak
  ·clear h
   go_enter Tryz.func242, Tryz.ntmps242;exact Xak
 ·clear h
  go_enter Tryz.func242, Tryz.ntmps242;exact Xak
theorem zgt (a m : Int) (w : World) :
  Calls Tryz.prog 242 #[a, .int .i64 16777216, m] w fun e w' => e = .returned (.tuple #[.int .i64 (QC a m).1, .bool (QC a m).2]) ∧ Below w.heap.size w w' := by
 rcases Bool.eq_false_or_eq_true (inW a && je m && !decide (a < 0)) with h | h
 ·have E : QC a m = (if ZN (a * 16777216) (z8 (a * 16777216) 63) m then z8 (a * 16777216) 63 + 1 else z8 (a * 16777216) 63, true) := by unfold QC; rw [h]; rfl
  rw [E]; clear E;simp only [Bool.and_eq_true, Bool.not_eq_true', decide_eq_false_iff_not] at h;obtain ⟨⟨ha, hm⟩, hlt⟩ := h;have ba := zt.mp ha;obtain ⟨Q, hQ⟩ := zc (a * 16777216);have g0 : 0 ≤ hi a 16777216 ∧ hi a 16777216 < 18446744073709551616 := by unfold hi; omega
  have g1 : 0 ≤ lo a 16777216 ∧ lo a 16777216 < 18446744073709551616 := by unfold lo; omega
  have e : Q = hi a 16777216 * 18446744073709551616 + lo a 16777216 := by unfold hi lo; omega
  have hQ1 : 0 ≤ Q ∧ Q < 2 ^ 126 := by omega
  have hsq := zjv Q hQ1.1 hQ1.2 63 (by omega);have hbd := vp Q 63 (by omega)
  have hR2 : z8 Q 63 < 4611686018427387904 := by
   rcases Int.lt_or_le (z8 Q 63) 4611686018427387904 with h | h
   ·exact h
   ·have := Int.mul_le_mul h h (by decide) (by omega)
    omega
  rw [hQ];generalize hR : z8 Q 63 = R at *;generalize hn : (if ZN Q R m = true then R + 1 else R) = n;rcases Bool.eq_false_or_eq_true (a != 0) with hz | hz
  ·exact zgE a m w ha (by omega) hm hz Q (hi a 16777216) (lo a 16777216) e hQ1 g0 g1 (za rfl) (za rfl) R hR hR2 n hn
  ·exact ze5 a m w ha (by omega) hm hz Q (hi a 16777216) (lo a 16777216) e hQ1 g0 g1 (za rfl) (za rfl) R hR hR2 n hn
 ·exact ziX a m w h
def vd (a m : Int) : Int × Bool := vo (QC a m).1 (QC a m).2 [a]
theorem zjc (a m : Int) (w : World) : Calls Tryz.prog 236 #[a, m] w fun e w' => e = .returned (.tuple #[.int .i64 (vd a m).1, .bool (vd a m).2]) ∧ Below w.heap.size w w' := by
 have C := zgt a m;unfold vd;generalize QC a m = p at C ⊢;obtain ⟨n, is⟩ := p;obtain ⟨x, hx⟩ := zc ((vo n is [a]));have T := fun (g : Nat) (W : World) (h : At W g 3 #[a]) => zj9 n is a g W h;simp only [hx] at T ⊢;have HC := za C;have HT := za T;clear C T hx;obtain ⟨y, k⟩ := x;go_enter Tryz.func236, Tryz.ntmps236;go_wp2_with (first | (go_at_call 242; (with_reducible refine (HC.out _).mono ?_); rintro e w1 ⟨rfl, hb1⟩; have hB1 := za hb1; clear hb1) | (go_at_call 239; (with_reducible refine (HT.out _ _ (At.new _ _ _)).mono ?_); rintro e w2 ⟨rfl, hb2⟩; have hB2 := za (zj (zg hB1.out _) hb2); clear hb2))
 go_ret2
 exact ⟨rfl, hB2.out⟩
end Go.Proofs.YtcoiklclbljjeaaGreatDoor.L
