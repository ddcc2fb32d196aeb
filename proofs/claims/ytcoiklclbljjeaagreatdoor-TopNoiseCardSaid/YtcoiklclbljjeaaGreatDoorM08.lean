/- Lemmas of the card's proof. -/
import Derived.Test.YtcoiklclbljjeaaGreatDoorM07
set_option linter.unusedVariables false
set_option linter.unusedSimpArgs false
set_option maxRecDepth 100000
set_option maxHeartbeats 16000000
namespace Go.Proofs.YtcoiklclbljjeaaGreatDoor.L
open Go.RowKit
theorem zj7 (a m : Int) (w : World) (h : (inW a && jq m && !decide (a < 0)) = false) :
  Calls Tryz.prog 242 #[a, .int .i64 16777216, m] w fun e w' => e = .returned (.tuple #[.int .i64 (Jg a m).1, .bool (Jg a m).2]) ∧ Below w.heap.size w w' := by
 have E := za (show Jg a m = (0, false) by unfold Jg; rw [h]; rfl);have hW : inW 16777216 = true := by decide
 rcases Bool.eq_false_or_eq_true (inW a) with ha | ha
 ·rcases Bool.eq_false_or_eq_true (jq m) with hm | hm
  ·have hlt : a < 0 := by
    rw [ha, hm] at h; simpa using h
   have h1 : (a != 0) = true := by simp; omega
   have h2 : decide (a < 0) = true := decide_eq_true hlt;clear h hlt;go_enter Tryz.func242, Tryz.ntmps242;exact Xak
  ·clear h
   go_enter Tryz.func242, Tryz.ntmps242;exact Xak
 ·clear h
  go_enter Tryz.func242, Tryz.ntmps242;exact Xak
theorem zhu (a m : Int) (w : World) :
  Calls Tryz.prog 242 #[a, .int .i64 16777216, m] w fun e w' => e = .returned (.tuple #[.int .i64 (Jg a m).1, .bool (Jg a m).2]) ∧ Below w.heap.size w w' := by
 rcases Bool.eq_false_or_eq_true (inW a && jq m && !decide (a < 0)) with h | h
 ·have E : Jg a m = (if Qi (a * 16777216) (qd (a * 16777216) 63) m then qd (a * 16777216) 63 + 1 else qd (a * 16777216) 63, true) := by unfold Jg; rw [h]; rfl
  rw [E]; clear E;simp only [Bool.and_eq_true, Bool.not_eq_true', decide_eq_false_iff_not] at h;obtain ⟨⟨ha, hm⟩, hlt⟩ := h;have ba := zr.mp ha;obtain ⟨Q, hQ⟩ := zc (a * 16777216);have g0 : 0 ≤ hi a 16777216 ∧ hi a 16777216 < 18446744073709551616 := by unfold hi; omega
  have g1 : 0 ≤ lo a 16777216 ∧ lo a 16777216 < 18446744073709551616 := by unfold lo; omega
  have e : Q = hi a 16777216 * 18446744073709551616 + lo a 16777216 := by unfold hi lo; omega
  have hQ1 : 0 ≤ Q ∧ Q < 2 ^ 126 := by omega
  have hsq := zkI Q hQ1.1 hQ1.2 63 (by omega);have hbd := vM Q 63 (by omega)
  have hR2 : qd Q 63 < 4611686018427387904 := by
   rcases Int.lt_or_le (qd Q 63) 4611686018427387904 with h | h
   ·exact h
   ·have := Int.mul_le_mul h h (by decide) (by omega)
    omega
  rw [hQ];generalize hR : qd Q 63 = R at *;generalize hn : (if Qi Q R m = true then R + 1 else R) = n;rcases Bool.eq_false_or_eq_true (a != 0) with hz | hz
  ·exact zhI a m w ha (by omega) hm hz Q (hi a 16777216) (lo a 16777216) e hQ1 g0 g1 (za rfl) (za rfl) R hR hR2 n hn
  ·exact zfZ a m w ha (by omega) hm hz Q (hi a 16777216) (lo a 16777216) e hQ1 g0 g1 (za rfl) (za rfl) R hR hR2 n hn
 ·exact zj7 a m w h
def vG (a m:Int):Int×Bool:=vL (Jg a m).1 (Jg a m).2 [a]
theorem zko (a m:Int) (w:World):Calls Tryz.prog 236 #[a,m] w fun e w'=>e=.returned (.tuple #[.int .i64 (vG a m).1,.bool (vG a m).2])∧Below w.heap.size w w':=by
 have C:=zhu a m;unfold vG;generalize Jg a m=p at C ⊢;obtain ⟨n,is⟩:=p;obtain ⟨x,hx⟩:=zc ((vL n is [a]));have T:=fun (g:Nat) (W:World) (h:At W g 3 #[a])=>zli n is a g W h;simp only [hx] at T ⊢;have HC:=za C;have HT:=za T;clear C T hx;obtain ⟨y,k⟩:=x;go_enter Tryz.func236,Tryz.ntmps236;go_wp2_with (first | (go_at_call 242;(with_reducible refine (HC.out _).mono ?_);rintro e w1 ⟨rfl,hb1⟩;have hB1:=za hb1;clear hb1)|(go_at_call 239;(with_reducible refine (HT.out _ _ (At.new _ _ _)).mono ?_);rintro e w2 ⟨rfl,hb2⟩;have hB2:=za (zi (zg hB1.out _) hb2);clear hb2))
 go_ret2
 exact ⟨rfl,hB2.out⟩
end Go.Proofs.YtcoiklclbljjeaaGreatDoor.L
