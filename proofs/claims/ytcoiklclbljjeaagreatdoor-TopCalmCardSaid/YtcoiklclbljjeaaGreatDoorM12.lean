/- Lemmas of the card's proof. -/
import Derived.Test.YtcoiklclbljjeaaGreatDoorM02
import Derived.Test.YtcoiklclbljjeaaGreatDoorM11
set_option linter.unusedVariables false
set_option linter.unusedSimpArgs false
set_option maxRecDepth 100000
set_option maxHeartbeats 16000000
namespace Go.Proofs.YtcoiklclbljjeaaGreatDoor.L
open Go.RowKit
theorem Xar {P : Prop} (h : P := by
 unfold e; rw [← zcl];refine zc3.mpr ?_;have := Rat.intCast_le_intCast.mpr h;rw [Rat.intCast_mul, Rat.intCast_mul, show ((16777216 : Int) : Rat) = 16777216 from rfl] at this
 grind) : P := h
section
open R R.Real
theorem ZH {a b c m : Int} (h : (jB a b c m).2 = true) : c ≠ 0 ∧ (m = 1 → (0 < c → (jB a b c m).1 * c ≤ a * b) ∧ (c < 0 → a * b ≤ (jB a b c m).1 * c)) ∧ (m = 2 → (0 < c → a * b ≤ (jB a b c m).1 * c) ∧ (c < 0 → (jB a b c m).1 * c ≤ a * b)) := by
 unfold jB at h ⊢
 split at h
 ·rename_i h1
  rw [if_pos h1]
  split at h
  ·cases h
  ·rename_i h2
   rw [if_neg h2];simp only [Bool.and_eq_true, Bool.not_eq_true', beq_eq_false_iff_ne] at h1;have hc : c ≠ 0 := h1.1.2;unfold qF at h ⊢
   split at h
   ·cases h
   ·rename_i h3
    rw [if_neg h3];clear h h3 h1 h2;have hd : 0 < sz c := zhH hc;obtain ⟨X, hX⟩ := zc (sz a * sz b)
    have e1 : hi (sz a) (sz b) * 18446744073709551616 + lo (sz a) (sz b) = X := by
     unfold hi lo; rw [hX]; omega
    have e2 := Int.mul_ediv_add_emod X (sz c);have r0 := Int.emod_nonneg X (show sz c ≠ 0 by omega);have r1 := Int.emod_lt_of_pos X hd;unfold dq dr;rw [e1];generalize X / sz c = Q at *;generalize X % sz c = r at *;obtain ⟨Z, hZ⟩ := zc (sz c * Q);rw [hZ] at e2
    have hab : (decide (a < 0) != decide (b < 0)) = false ∧ a * b = X ∨ (decide (a < 0) != decide (b < 0)) = true ∧ a * b = -X := by
     rw [← hX];unfold sz
     by_cases ha : a < 0 <;> by_cases hb : b < 0 <;> simp [ha, hb, Int.mul_neg, Int.neg_mul]
    have hcd : (c < 0 ∧ sz c = -c ∧ decide (c < 0) = true) ∨ (0 < c ∧ sz c = c ∧ decide (c < 0) = false) := by
     unfold sz
     by_cases h : c < 0
     ·exact .inl ⟨h, if_pos h, decide_eq_true h⟩
     ·exact .inr ⟨by omega, if_neg h, decide_eq_false h⟩
    refine ⟨hc, fun hm => ?_, fun hm => ?_⟩
    all_goals
     subst hm;unfold jh jX;rcases hcd with ⟨c0, cs, cb⟩ | ⟨c0, cs, cb⟩
     all_goals
      rw [cs] at hZ hd r1;rcases hab with ⟨s, ab⟩ | ⟨s, ab⟩
      all_goals
       rw [s, ab]
       by_cases hr : r = 0
       ·simp only [hr, if_true, cb]
        constructor <;> intro hh <;> first | omega | (simp; grind)
       ·simp only [hr, if_false, cb]
        constructor <;> intro hh <;> first | omega | (simp; grind)
 ·cases h
theorem Yj {n : Int} {is : Bool} {l : List Int} (h : (vo n is l).2 = true) : is = true ∧ (vo n is l).1 = n := by
 unfold vo at h ⊢
 split at h
 ·rename_i h1
  rw [if_pos h1];simp only [Bool.and_eq_true] at h1;exact ⟨h1.1, rfl⟩
 ·cases h
theorem zdq {a b : Int} (h : (Yt a b).2 = true) : (Yt a b).1 = a + b := by
 unfold Yt at h ⊢
 split at h
 ·rename_i h1; rw [if_pos h1]; exact (Yj h).2
 ·cases h
theorem zdk {a b : Int} (h : (Yq a b).2 = true) : (Yq a b).1 = a - b := by
 unfold Yq at h ⊢
 split at h
 ·rename_i h1; rw [if_pos h1]; exact (Yj h).2
 ·cases h
theorem Jh {a b : Int} : ((vu a b 1).2 = true → (vu a b 1).1 * 16777216 ≤ a * b) ∧ ((vu a b 2).2 = true → a * b ≤ (vu a b 2).1 * 16777216) := by
 constructor
 ·intro h
  unfold vu at h ⊢;have := Yj h;rw [this.2];exact ((ZH this.1).2.1 rfl).1 (by decide)
 ·intro h
  unfold vu at h ⊢;have := Yj h;rw [this.2];exact ((ZH this.1).2.2 rfl).1 (by decide)
theorem zdp {a b : Int} : ((jN a b 1).2 = true → (0 < b → (jN a b 1).1 * b ≤ a * 16777216) ∧ (b < 0 → a * 16777216 ≤ (jN a b 1).1 * b)) ∧ ((jN a b 2).2 = true → (0 < b → a * 16777216 ≤ (jN a b 2).1 * b) ∧ (b < 0 → (jN a b 2).1 * b ≤ a * 16777216)) := by
 constructor
 ·intro h
  unfold jN at h ⊢;have := Yj h;rw [this.2];exact (ZH this.1).2.1 rfl
 ·intro h
  unfold jN at h ⊢;have := Yj h;rw [this.2];exact (ZH this.1).2.2 rfl
theorem zgb {a m : Int} (h : (vd a m).2 = true) : 0 ≤ a ∧ 0 ≤ (vd a m).1 ∧ (m = 1 → (vd a m).1 * (vd a m).1 ≤ a * 16777216) ∧ (m = 2 → a * 16777216 ≤ (vd a m).1 * (vd a m).1) := by
 unfold vd at h ⊢;have ht := Yj h;rw [ht.2];replace h := ht.1;clear ht;unfold QC at h ⊢
 split at h
 ·rename_i h1
  rw [if_pos h1];simp only [Bool.and_eq_true, Bool.not_eq_true', decide_eq_false_iff_not] at h1;obtain ⟨⟨ha, hm⟩, hlt⟩ := h1;have ba := zt.mp ha;have hsq := zjv (a * 16777216) (by omega) (by omega) 63 (by omega);have hbd := vp (a * 16777216) 63 (by omega);dsimp only;generalize a * 16777216 = Q at *;generalize z8 Q 63 = R at *;simp only [Nat.sub_self, Int.pow_zero] at hsq;have e : (R + 1) * (R + 1) = R * R + R + R + 1 := by grind
  refine ⟨by omega, by split <;> omega, fun hm => ?_, fun hm => ?_⟩
  ·subst hm
   have : ZN Q R 1 = false := by unfold ZN; simp
   rw [this];simp only [Bool.false_eq_true, if_false];exact hsq.1
  ·subst hm
   unfold ZN
   by_cases hh : R * R = Q
   ·simp [hh]
   ·simp [hh]
    omega
 ·cases h
def e (n : Int) : R.Real := q ((n : Rat) / 16777216)
theorem vx {a b : Int} (h : a ≤ b) : e a ≤ e b := zc3.mpr (by
 have : (a : Rat) ≤ (b : Rat) := by exact_mod_cast h
 grind)
theorem zhg {a b : Int} (h : e a ≤ e b) : a ≤ b := by
 have := zc3.mp h;have : (a : Rat) ≤ (b : Rat) := by grind
 exact_mod_cast this
theorem ziw (a b : Int) : e (a + b) = e a + e b := by
 unfold e; rw [← zjx]; congr 1; rw [Rat.intCast_add]; grind
theorem zkp (a : Int) : e (-a) = -e a := by
 unfold e; rw [← zkd]; congr 1; rw [Rat.intCast_neg]; grind
theorem zjC (a b : Int) : e (a - b) = e a - e b := by rw [Int.sub_eq_add_neg, ziw, zkp]; rfl
theorem vf : e 0 = 0 := by
 show q _ = q 0
 congr 1
 rw [Rat.intCast_zero]; grind
theorem Jm {a b c : Int} (h : c * 16777216 ≤ a * b) : e c ≤ e a * e b := by
 exact Xar
theorem Jn {a b c : Int} (h : a * b ≤ c * 16777216) : e a * e b ≤ e c := by
 exact Xar
def Enc (a : Num) (x : R.Real) : Prop := a.fine = true → e a.l ≤ x ∧ x ≤ e a.h
theorem Enc.bad {a : Num} {x : R.Real} (h : a.fine = false) : Enc a x := fun k => by rw [h] at k; cases k
theorem Qa {f : Op3} {a b : Num} {ps : List (Int × Int)} (h : (Zp f a b ps).fine = true) :
  a.fine = true ∧ b.fine = true ∧ ps.all (pOk f) = true ∧ (Zp f a b ps).l = Zv (ps.map (pLo f)) ∧ (Zp f a b ps).h = Zw (ps.map (pHi f)) := by
 unfold Zp at h ⊢
 split at h
 ·rename_i h1
  rw [if_pos h1];simp only [Bool.and_eq_true] at h1;exact ⟨h1.2.1, h1.2.2, h1.1.2, rfl, rfl⟩
 ·cases h
theorem zf2 (a b : Int) : mn a b ≤ a ∧ mn a b ≤ b := by unfold mn; split <;> omega
theorem zf0 (a b : Int) : a ≤ mx a b ∧ b ≤ mx a b := by unfold mx; split <;> omega
theorem zjQ (a b : Int) : Zv [a, b] ≤ a ∧ Zv [a, b] ≤ b := zf2 a b
theorem zjS (a b : Int) : a ≤ Zw [a, b] ∧ b ≤ Zw [a, b] := zf0 a b
theorem zkh (a b c d : Int) : Zv [a, b, c, d] ≤ a ∧ Zv [a, b, c, d] ≤ b ∧ Zv [a, b, c, d] ≤ c ∧ Zv [a, b, c, d] ≤ d := by
 show mn (mn (mn a b) c) d ≤ _ ∧ mn (mn (mn a b) c) d ≤ _ ∧ mn (mn (mn a b) c) d ≤ _ ∧ mn (mn (mn a b) c) d ≤ _;have := zf2 a b; have := zf2 (mn a b) c; have := zf2 (mn (mn a b) c) d;omega
theorem zkj (a b c d : Int) : a ≤ Zw [a, b, c, d] ∧ b ≤ Zw [a, b, c, d] ∧ c ≤ Zw [a, b, c, d] ∧ d ≤ Zw [a, b, c, d] := by
 show _ ≤ mx (mx (mx a b) c) d ∧ _ ≤ mx (mx (mx a b) c) d ∧ _ ≤ mx (mx (mx a b) c) d ∧ _ ≤ mx (mx (mx a b) c) d;have := zf0 a b; have := zf0 (mx a b) c; have := zf0 (mx (mx a b) c) d;omega
theorem Enc.add {a b : Num} {x y : R.Real} (ha : Enc a x) (hb : Enc b y) : Enc (a.add b) (x + y) := fun h => by
 obtain ⟨h1, h2, h3, h4, h5⟩ := Qa h;obtain ⟨a1, a2⟩ := ha h1;obtain ⟨b1, b2⟩ := hb h2;simp only [List.all_cons, List.all_nil, Bool.and_true, Bool.and_eq_true, pOk] at h3;have ml := (zjQ (pLo YM (a.l, b.l)) (pLo YM (a.h, b.h))).1;have mh := (zjS (pHi YM (a.l, b.l)) (pHi YM (a.h, b.h))).2;rw [show pLo YM (a.l, b.l) = a.l + b.l from zdq h3.1.1] at ml;rw [show pHi YM (a.h, b.h) = a.h + b.h from zdq h3.2.2] at mh
 have el : (a.add b).l ≤ a.l + b.l := by rw [show (a.add b).l = Zv [pLo YM (a.l, b.l), pLo YM (a.h, b.h)] from h4, show pLo YM (a.l, b.l) = a.l + b.l from zdq h3.1.1]; exact ml
 have eh : a.h + b.h ≤ (a.add b).h := by rw [show (a.add b).h = Zw [pHi YM (a.l, b.l), pHi YM (a.h, b.h)] from h5, show pHi YM (a.h, b.h) = a.h + b.h from zdq h3.2.2]; exact mh
 exact ⟨R.Real.le_trans (vx el) (by rw [ziw]; exact jS a1 b1), R.Real.le_trans (jS a2 b2) (by rw [← ziw]; exact vx eh)⟩
theorem Enc.sub {a b : Num} {x y : R.Real} (ha : Enc a x) (hb : Enc b y) : Enc (a.sub b) (x - y) := fun h => by
 obtain ⟨h1, h2, h3, h4, h5⟩ := Qa h;obtain ⟨a1, a2⟩ := ha h1;obtain ⟨b1, b2⟩ := hb h2;simp only [List.all_cons, List.all_nil, Bool.and_true, Bool.and_eq_true, pOk] at h3;have ml := (zjQ (pLo YL (a.l, b.h)) (pLo YL (a.h, b.l))).1;have mh := (zjS (pHi YL (a.l, b.h)) (pHi YL (a.h, b.l))).2;rw [show pLo YL (a.l, b.h) = a.l - b.h from zdk h3.1.1] at ml;rw [show pHi YL (a.h, b.l) = a.h - b.l from zdk h3.2.2] at mh
 have el : (a.sub b).l ≤ a.l - b.h := by rw [show (a.sub b).l = Zv [pLo YL (a.l, b.h), pLo YL (a.h, b.l)] from h4, show pLo YL (a.l, b.h) = a.l - b.h from zdk h3.1.1]; exact ml
 have eh : a.h - b.l ≤ (a.sub b).h := by rw [show (a.sub b).h = Zw [pHi YL (a.l, b.h), pHi YL (a.h, b.l)] from h5, show pHi YL (a.h, b.l) = a.h - b.l from zdk h3.2.2]; exact mh
 exact ⟨R.Real.le_trans (vx el) (by rw [zjC]; exact jS a1 (neg_le b2)), R.Real.le_trans (jS a2 (neg_le b1)) (by rw [← R.Real.sub_def, ← zjC]; exact vx eh)⟩
theorem zij {a b x y m : R.Real} {c d : R.Real} (h1 : a ≤ x) (h2 : x ≤ b) (h3 : c ≤ y) (h4 : y ≤ d) (k1 : m ≤ a * c) (k2 : m ≤ a * d) (k3 : m ≤ b * c) (k4 : m ≤ b * d) : m ≤ x * y := by
 refine YQ h3 h4 ?_ ?_
 ·rw [R.Real.mul_comm]; exact YQ h1 h2 (by rw [R.Real.mul_comm]; exact k1) (by rw [R.Real.mul_comm]; exact k3)
 ·rw [R.Real.mul_comm]; exact YQ h1 h2 (by rw [R.Real.mul_comm]; exact k2) (by rw [R.Real.mul_comm]; exact k4)
theorem zgV {a b x y m : R.Real} {c d : R.Real} (h1 : a ≤ x) (h2 : x ≤ b) (h3 : c ≤ y) (h4 : y ≤ d) (k1 : a * c ≤ m) (k2 : a * d ≤ m) (k3 : b * c ≤ m) (k4 : b * d ≤ m) : x * y ≤ m := by
 refine Jd h3 h4 ?_ ?_
 ·rw [R.Real.mul_comm]; exact Jd h1 h2 (by rw [R.Real.mul_comm]; exact k1) (by rw [R.Real.mul_comm]; exact k3)
 ·rw [R.Real.mul_comm]; exact Jd h1 h2 (by rw [R.Real.mul_comm]; exact k2) (by rw [R.Real.mul_comm]; exact k4)
theorem Enc.mul {a b : Num} {x y : R.Real} (ha : Enc a x) (hb : Enc b y) : Enc (a.mul b) (x * y) := fun h => by
 obtain ⟨h1, h2, h3, h4, h5⟩ := Qa h;obtain ⟨a1, a2⟩ := ha h1;obtain ⟨b1, b2⟩ := hb h2;simp only [zas, List.all_cons, List.all_nil, Bool.and_true, Bool.and_eq_true, pOk] at h3;have ml := zkh (pLo vu (a.l, b.l)) (pLo vu (a.l, b.h)) (pLo vu (a.h, b.l)) (pLo vu (a.h, b.h));have mh := zkj (pHi vu (a.l, b.l)) (pHi vu (a.l, b.h)) (pHi vu (a.h, b.l)) (pHi vu (a.h, b.h));have el : (a.mul b).l = Zv [pLo vu (a.l, b.l), pLo vu (a.l, b.h), pLo vu (a.h, b.l), pLo vu (a.h, b.h)] := h4
 have eh : (a.mul b).h = Zw [pHi vu (a.l, b.l), pHi vu (a.l, b.h), pHi vu (a.h, b.l), pHi vu (a.h, b.h)] := h5;rw [el, eh]
 exact ⟨zij a1 a2 b1 b2 (R.Real.le_trans (vx ml.1) (Jm (Jh.1 h3.1.1))) (R.Real.le_trans (vx ml.2.1) (Jm (Jh.1 h3.2.1.1))) (R.Real.le_trans (vx ml.2.2.1) (Jm (Jh.1 h3.2.2.1.1))) (R.Real.le_trans (vx ml.2.2.2) (Jm (Jh.1 h3.2.2.2.1))),
  zgV a1 a2 b1 b2 (R.Real.le_trans (Jn (Jh.2 h3.1.2)) (vx mh.1)) (R.Real.le_trans (Jn (Jh.2 h3.2.1.2)) (vx mh.2.1)) (R.Real.le_trans (Jn (Jh.2 h3.2.2.1.2)) (vx mh.2.2.1)) (R.Real.le_trans (Jn (Jh.2 h3.2.2.2.2)) (vx mh.2.2.2))⟩
end
end Go.Proofs.YtcoiklclbljjeaaGreatDoor.L
