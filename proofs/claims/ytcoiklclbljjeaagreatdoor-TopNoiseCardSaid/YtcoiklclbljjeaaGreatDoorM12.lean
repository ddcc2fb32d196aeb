/- Lemmas of the card's proof. -/
import Derived.Test.YtcoiklclbljjeaaGreatDoorM02
import Derived.Test.YtcoiklclbljjeaaGreatDoorM11
set_option linter.unusedVariables false
set_option linter.unusedSimpArgs false
set_option maxRecDepth 100000
set_option maxHeartbeats 16000000
namespace Go.Proofs.YtcoiklclbljjeaaGreatDoor.L
open Go.RowKit
theorem Xar {P:Prop} (h:P:=by
 unfold e;rw [←zde];refine zdW.mpr ?_;have:=Rat.intCast_le_intCast.mpr h;rw [Rat.intCast_mul,Rat.intCast_mul,show ((16777216:Int):Rat)=16777216 from rfl] at this
 grind) : P := h
section
open R R.Real
theorem Qc {a b c m:Int} (h:(jK a b c m).2=true):c≠0∧(m=1→(0<c→(jK a b c m).1*c≤a*b)∧(c<0→a*b≤(jK a b c m).1*c))∧(m=2→(0<c→a*b≤(jK a b c m).1*c)∧(c<0→(jK a b c m).1*c≤a*b)):=by
 unfold jK at h ⊢
 split at h
 ·rename_i h1
  rw [if_pos h1]
  split at h
  ·cases h
  ·rename_i h2
   rw [if_neg h2];simp only [Bool.and_eq_true,Bool.not_eq_true', beq_eq_false_iff_ne] at h1;have hc:c≠0:=h1.1.2;unfold qL at h ⊢
   split at h
   ·cases h
   ·rename_i h3
    rw [if_neg h3];clear h h3 h1 h2;have hd:0<sz c:=ziQ hc;obtain ⟨X,hX⟩:=zc (sz a*sz b)
    have e1:hi (sz a) (sz b)*18446744073709551616+lo (sz a) (sz b)=X:=by
     unfold hi lo;rw [hX];omega
    have e2:=Int.mul_ediv_add_emod X (sz c);have r0:=Int.emod_nonneg X (show sz c≠0 by omega);have r1:=Int.emod_lt_of_pos X hd;unfold dq dr;rw [e1];generalize X / sz c=Q at *;generalize X%sz c=r at *;obtain ⟨Z,hZ⟩:=zc (sz c*Q);rw [hZ] at e2
    have hab:(decide (a<0)!=decide (b<0))=false∧a*b=X∨(decide (a<0)!=decide (b<0))=true∧a*b=-X:=by
     rw [←hX];unfold sz
     by_cases ha:a<0<;>by_cases hb:b<0<;>simp [ha,hb,Int.mul_neg,Int.neg_mul]
    have hcd:(c<0∧sz c=-c∧decide (c<0)=true)∨(0<c∧sz c=c∧decide (c<0)=false):=by
     unfold sz
     by_cases h:c<0
     ·exact .inl ⟨h,if_pos h,decide_eq_true h⟩
     ·exact .inr ⟨by omega,if_neg h,decide_eq_false h⟩
    refine ⟨hc,fun hm=>?_,fun hm=>?_⟩
    all_goals
     subst hm;unfold ju j9;rcases hcd with ⟨c0,cs,cb⟩|⟨c0,cs,cb⟩
     all_goals
      rw [cs] at hZ hd r1;rcases hab with ⟨s,ab⟩|⟨s,ab⟩
      all_goals
       rw [s,ab]
       by_cases hr:r=0
       ·simp only [hr,if_true,cb]
        constructor<;>intro hh<;>first|omega|(simp;grind)
       ·simp only [hr,if_false,cb]
        constructor<;>intro hh<;>first|omega|(simp;grind)
 ·cases h
theorem YR {n:Int} {is:Bool} {l:List Int} (h:(vL n is l).2=true):is=true∧(vL n is l).1=n:=by
 unfold vL at h ⊢
 split at h
 ·rename_i h1
  rw [if_pos h1];simp only [Bool.and_eq_true] at h1;exact ⟨h1.1,rfl⟩
 ·cases h
theorem zeo {a b:Int} (h:(Vb a b).2=true):(Vb a b).1=a+b:=by
 unfold Vb at h ⊢
 split at h
 ·rename_i h1;rw [if_pos h1];exact (YR h).2
 ·cases h
theorem zeh {a b:Int} (h:(Y8 a b).2=true):(Y8 a b).1=a-b:=by
 unfold Y8 at h ⊢
 split at h
 ·rename_i h1;rw [if_pos h1];exact (YR h).2
 ·cases h
theorem JT {a b:Int}:((vQ a b 1).2=true→(vQ a b 1).1*16777216≤a*b)∧((vQ a b 2).2=true→a*b≤(vQ a b 2).1*16777216):=by
 constructor
 ·intro h
  unfold vQ at h ⊢;have:=YR h;rw [this.2];exact ((Qc this.1).2.1 rfl).1 (by decide)
 ·intro h
  unfold vQ at h ⊢;have:=YR h;rw [this.2];exact ((Qc this.1).2.2 rfl).1 (by decide)
theorem zen {a b:Int}:((jX a b 1).2=true→(0<b→(jX a b 1).1*b≤a*16777216)∧(b<0→a*16777216≤(jX a b 1).1*b))∧((jX a b 2).2=true→(0<b→a*16777216≤(jX a b 2).1*b)∧(b<0→(jX a b 2).1*b≤a*16777216)):=by
 constructor
 ·intro h
  unfold jX at h ⊢;have:=YR h;rw [this.2];exact (Qc this.1).2.1 rfl
 ·intro h
  unfold jX at h ⊢;have:=YR h;rw [this.2];exact (Qc this.1).2.2 rfl
theorem zha {a m:Int} (h:(vG a m).2=true):0≤a∧0≤(vG a m).1∧(m=1→(vG a m).1*(vG a m).1≤a*16777216)∧(m=2→a*16777216≤(vG a m).1*(vG a m).1):=by
 unfold vG at h ⊢;have ht:=YR h;rw [ht.2];replace h:=ht.1;clear ht;unfold Jg at h ⊢
 split at h
 ·rename_i h1
  rw [if_pos h1];simp only [Bool.and_eq_true,Bool.not_eq_true', decide_eq_false_iff_not] at h1;obtain ⟨⟨ha,hm⟩,hlt⟩:=h1;have ba:=zr.mp ha;have hsq:=zkI (a*16777216) (by omega) (by omega) 63 (by omega);have hbd:=vM (a*16777216) 63 (by omega);dsimp only;generalize a*16777216=Q at *;generalize qd Q 63=R at *;simp only [Nat.sub_self,Int.pow_zero] at hsq;have e:(R+1)*(R+1)=R*R+R+R+1:=by grind
  refine ⟨by omega,by split<;>omega,fun hm=>?_,fun hm=>?_⟩
  ·subst hm
   have:Qi Q R 1=false:=by unfold Qi;simp
   rw [this];simp only [Bool.false_eq_true,if_false];exact hsq.1
  ·subst hm
   unfold Qi
   by_cases hh:R*R=Q
   ·simp [hh]
   ·simp [hh]
    omega
 ·cases h
def e (n:Int):R.Real:=q ((n:Rat) / 16777216)
theorem vS {a b:Int} (h:a≤b):e a≤e b:=zdW.mpr (by
 have:(a:Rat)≤(b:Rat):=by exact_mod_cast h
 grind)
theorem zio {a b:Int} (h:e a≤e b):a≤b:=by
 have:=zdW.mp h;have:(a:Rat)≤(b:Rat):=by grind
 exact_mod_cast this
theorem zjF (a b:Int):e (a+b)=e a+e b:=by
 unfold e;rw [←zkK];congr 1;rw [Rat.intCast_add];grind
theorem zlA (a:Int):e (-a)=-e a:=by
 unfold e;rw [←zlm];congr 1;rw [Rat.intCast_neg];grind
theorem zkQ (a b:Int):e (a-b)=e a-e b:=by rw [Int.sub_eq_add_neg,zjF,zlA];rfl
theorem vJ:e 0=0:=by
 show q _=q 0
 congr 1
 rw [Rat.intCast_zero];grind
theorem J2 {a b c:Int} (h:c*16777216≤a*b):e c≤e a*e b:=by
 exact Xar
theorem J3 {a b c:Int} (h:a*b≤c*16777216):e a*e b≤e c:=by
 exact Xar
def Enc (a:Num) (x:R.Real):Prop:=a.fine=true→e a.l≤x∧x≤e a.h
theorem QE {f:Op3} {a b:Num} {ps:List (Int×Int)} (h:(ZN f a b ps).fine=true) :
  a.fine=true∧b.fine=true∧ps.all (pOk f)=true∧(ZN f a b ps).l=ZU (ps.map (pLo f))∧(ZN f a b ps).h=ZV (ps.map (pHi f)):=by
 unfold ZN at h ⊢
 split at h
 ·rename_i h1
  rw [if_pos h1];simp only [Bool.and_eq_true] at h1;exact ⟨h1.2.1,h1.2.2,h1.1.2,rfl,rfl⟩
 ·cases h
theorem zg2 (a b:Int):mn a b≤a∧mn a b≤b:=by unfold mn;split<;>omega
theorem zg0 (a b:Int):a≤mx a b∧b≤mx a b:=by unfold mx;split<;>omega
theorem zk1 (a b:Int):ZU [a,b]≤a∧ZU [a,b]≤b:=zg2 a b
theorem zk3 (a b:Int):a≤ZV [a,b]∧b≤ZV [a,b]:=zg0 a b
theorem zlq (a b c d:Int):ZU [a,b,c,d]≤a∧ZU [a,b,c,d]≤b∧ZU [a,b,c,d]≤c∧ZU [a,b,c,d]≤d:=by
 show mn (mn (mn a b) c) d≤_∧mn (mn (mn a b) c) d≤_∧mn (mn (mn a b) c) d≤_∧mn (mn (mn a b) c) d≤_;have:=zg2 a b;have:=zg2 (mn a b) c;have:=zg2 (mn (mn a b) c) d;omega
theorem zls (a b c d:Int):a≤ZV [a,b,c,d]∧b≤ZV [a,b,c,d]∧c≤ZV [a,b,c,d]∧d≤ZV [a,b,c,d]:=by
 show _≤mx (mx (mx a b) c) d∧_≤mx (mx (mx a b) c) d∧_≤mx (mx (mx a b) c) d∧_≤mx (mx (mx a b) c) d;have:=zg0 a b;have:=zg0 (mx a b) c;have:=zg0 (mx (mx a b) c) d;omega
theorem Enc.add {a b:Num} {x y:R.Real} (ha:Enc a x) (hb:Enc b y):Enc (a.add b) (x+y):=fun h=>by
 obtain ⟨h1,h2,h3,h4,h5⟩:=QE h;obtain ⟨a1,a2⟩:=ha h1;obtain ⟨b1,b2⟩:=hb h2;simp only [List.all_cons,List.all_nil,Bool.and_true,Bool.and_eq_true,pOk] at h3;have ml:=(zk1 (pLo Vw (a.l,b.l)) (pLo Vw (a.h,b.h))).1;have mh:=(zk3 (pHi Vw (a.l,b.l)) (pHi Vw (a.h,b.h))).2;rw [show pLo Vw (a.l,b.l)=a.l+b.l from zeo h3.1.1] at ml;rw [show pHi Vw (a.h,b.h)=a.h+b.h from zeo h3.2.2] at mh
 have el:(a.add b).l≤a.l+b.l:=by rw [show (a.add b).l=ZU [pLo Vw (a.l,b.l),pLo Vw (a.h,b.h)] from h4,show pLo Vw (a.l,b.l)=a.l+b.l from zeo h3.1.1];exact ml
 have eh:a.h+b.h≤(a.add b).h:=by rw [show (a.add b).h=ZV [pHi Vw (a.l,b.l),pHi Vw (a.h,b.h)] from h5,show pHi Vw (a.h,b.h)=a.h+b.h from zeo h3.2.2];exact mh
 exact ⟨R.Real.le_trans (vS el) (by rw [zjF];exact j3 a1 b1),R.Real.le_trans (j3 a2 b2) (by rw [←zjF];exact vS eh)⟩
theorem Enc.sub {a b:Num} {x y:R.Real} (ha:Enc a x) (hb:Enc b y):Enc (a.sub b) (x-y):=fun h=>by
 obtain ⟨h1,h2,h3,h4,h5⟩:=QE h;obtain ⟨a1,a2⟩:=ha h1;obtain ⟨b1,b2⟩:=hb h2;simp only [List.all_cons,List.all_nil,Bool.and_true,Bool.and_eq_true,pOk] at h3;have ml:=(zk1 (pLo Vv (a.l,b.h)) (pLo Vv (a.h,b.l))).1;have mh:=(zk3 (pHi Vv (a.l,b.h)) (pHi Vv (a.h,b.l))).2;rw [show pLo Vv (a.l,b.h)=a.l-b.h from zeh h3.1.1] at ml;rw [show pHi Vv (a.h,b.l)=a.h-b.l from zeh h3.2.2] at mh
 have el:(a.sub b).l≤a.l-b.h:=by rw [show (a.sub b).l=ZU [pLo Vv (a.l,b.h),pLo Vv (a.h,b.l)] from h4,show pLo Vv (a.l,b.h)=a.l-b.h from zeh h3.1.1];exact ml
 have eh:a.h-b.l≤(a.sub b).h:=by rw [show (a.sub b).h=ZV [pHi Vv (a.l,b.h),pHi Vv (a.h,b.l)] from h5,show pHi Vv (a.h,b.l)=a.h-b.l from zeh h3.2.2];exact mh
 exact ⟨R.Real.le_trans (vS el) (by rw [zkQ];exact j3 a1 (neg_le b2)),R.Real.le_trans (j3 a2 (neg_le b1)) (by rw [←R.Real.sub_def,←zkQ];exact vS eh)⟩
theorem zjr {a b x y m:R.Real} {c d:R.Real} (h1:a≤x) (h2:x≤b) (h3:c≤y) (h4:y≤d) (k1:m≤a*c) (k2:m≤a*d) (k3:m≤b*c) (k4:m≤b*d):m≤x*y:=by
 refine VA h3 h4 ?_ ?_
 ·rw [R.Real.mul_comm];exact VA h1 h2 (by rw [R.Real.mul_comm];exact k1) (by rw [R.Real.mul_comm];exact k3)
 ·rw [R.Real.mul_comm];exact VA h1 h2 (by rw [R.Real.mul_comm];exact k2) (by rw [R.Real.mul_comm];exact k4)
theorem zh3 {a b x y m:R.Real} {c d:R.Real} (h1:a≤x) (h2:x≤b) (h3:c≤y) (h4:y≤d) (k1:a*c≤m) (k2:a*d≤m) (k3:b*c≤m) (k4:b*d≤m):x*y≤m:=by
 refine JM h3 h4 ?_ ?_
 ·rw [R.Real.mul_comm];exact JM h1 h2 (by rw [R.Real.mul_comm];exact k1) (by rw [R.Real.mul_comm];exact k3)
 ·rw [R.Real.mul_comm];exact JM h1 h2 (by rw [R.Real.mul_comm];exact k2) (by rw [R.Real.mul_comm];exact k4)
theorem Enc.mul {a b:Num} {x y:R.Real} (ha:Enc a x) (hb:Enc b y):Enc (a.mul b) (x*y):=fun h=>by
 obtain ⟨h1,h2,h3,h4,h5⟩:=QE h;obtain ⟨a1,a2⟩:=ha h1;obtain ⟨b1,b2⟩:=hb h2;simp only [zbj,List.all_cons,List.all_nil,Bool.and_true,Bool.and_eq_true,pOk] at h3;have ml:=zlq (pLo vQ (a.l,b.l)) (pLo vQ (a.l,b.h)) (pLo vQ (a.h,b.l)) (pLo vQ (a.h,b.h));have mh:=zls (pHi vQ (a.l,b.l)) (pHi vQ (a.l,b.h)) (pHi vQ (a.h,b.l)) (pHi vQ (a.h,b.h));have el:(a.mul b).l=ZU [pLo vQ (a.l,b.l),pLo vQ (a.l,b.h),pLo vQ (a.h,b.l),pLo vQ (a.h,b.h)]:=h4
 have eh:(a.mul b).h=ZV [pHi vQ (a.l,b.l),pHi vQ (a.l,b.h),pHi vQ (a.h,b.l),pHi vQ (a.h,b.h)]:=h5;rw [el,eh]
 exact ⟨zjr a1 a2 b1 b2 (R.Real.le_trans (vS ml.1) (J2 (JT.1 h3.1.1))) (R.Real.le_trans (vS ml.2.1) (J2 (JT.1 h3.2.1.1))) (R.Real.le_trans (vS ml.2.2.1) (J2 (JT.1 h3.2.2.1.1))) (R.Real.le_trans (vS ml.2.2.2) (J2 (JT.1 h3.2.2.2.1))),
  zh3 a1 a2 b1 b2 (R.Real.le_trans (J3 (JT.2 h3.1.2)) (vS mh.1)) (R.Real.le_trans (J3 (JT.2 h3.2.1.2)) (vS mh.2.1)) (R.Real.le_trans (J3 (JT.2 h3.2.2.1.2)) (vS mh.2.2.1)) (R.Real.le_trans (J3 (JT.2 h3.2.2.2.2)) (vS mh.2.2.2))⟩
end
end Go.Proofs.YtcoiklclbljjeaaGreatDoor.L
