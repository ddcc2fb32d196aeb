/- Lemmas of the card's proof. -/
import Derived.Shelf.Strconv.Itoa0
import Derived.Test.YtcoiklclbljjeaaGreatDoorM03
import Derived.Test.YtcoiklclbljjeaaGreatDoorM04
set_option linter.unusedVariables false
set_option linter.unusedSimpArgs false
set_option maxRecDepth 100000
set_option maxHeartbeats 16000000
namespace Go.Proofs.YtcoiklclbljjeaaGreatDoor.L
open Go.RowKit
section
open Go.RowKit Go.Shelf
def zkV:Ren:=⟨fun|129=>188|n=>n,fun|53=>137|46=>164|n=>n,fun n=>n⟩
theorem zkj:Lays.n129 Tryz.prog zkV:={ mixed:=by kernel_rfl,f129:=by kernel_rfl,t3:=by kernel_rfl,a3:=by intro w;kernel_rfl,z3:=by intro w;kernel_rfl,v3:=by intro w;kernel_rfl,t4:=by kernel_rfl,a4:=by intro w;kernel_rfl,z4:=by intro w;kernel_rfl,v4:=by intro w;kernel_rfl,t5:=by kernel_rfl,a5:=by intro w;kernel_rfl,z5:=by intro w;kernel_rfl,v5:=by intro w;kernel_rfl,t9:=by kernel_rfl,a9:=by intro w;kernel_rfl,z9:=by intro w;kernel_rfl,v9:=by intro w;kernel_rfl,t46:=by kernel_rfl,a46:=by intro w;kernel_rfl,z46:=by intro w;kernel_rfl,v46:=by intro w;kernel_rfl,t53:=by kernel_rfl,a53:=by intro w;kernel_rfl,z53:=by intro w;kernel_rfl,v53:=by intro w;kernel_rfl }
def zcy (x:Int):Int:=(Lib.bitLen x.toNat:Nat)
theorem zgH (x:Int) (w:World) (h0:0≤x) (h1:x≤18446744073709551615):Calls Tryz.prog 188 #[.int .u64 x] w fun e w'=>e=.returned (.int .i64 (zcy x))∧w=w' :=
 (Any.bits_Len64 zkj x w h0 h1).mono fun _ _ h=>⟨h.1,h.2.symm⟩
theorem zex (f:Nat):∀x,Lib.bitLenAux f x≤f:=by
 induction f with
 | zero=>intro x;exact Nat.le_refl _
 | succ f ih=>intro x;unfold Lib.bitLenAux;split;omega;have:=ih (x / 2);omega
theorem zbt (x:Int):0≤zcy x∧zcy x≤64:=by have:=zex 64 x.toNat;unfold zcy Lib.bitLen;omega
theorem Yu (x:Int) (w:World) (h0:0≤x) (h1:x≤18446744073709551615):Calls Tryz.prog 187 #[.int .u64 x] w fun e w'=>e=.returned (.int .i64 (64-zcy x))∧w=w':=by
 have hb:=zbt x;go_enter Tryz.func187,Tryz.ntmps187;go_wp2_with (go_at_call 188;refine (zgH _ _ h0 h1).mono ?_;rintro e w' ⟨rfl,rfl⟩)
 go_ret;exact ⟨rfl,rfl⟩
end
theorem zey (f:Nat):∀x:Nat,0<x→x<2^f→0<Lib.bitLenAux f x∧2^(Lib.bitLenAux f x-1)≤x∧x<2^(Lib.bitLenAux f x):=by
 induction f with
 | zero=>intro x h0 h1;simp at h1;omega
 | succ f ih =>
  intro x h0 h1;unfold Lib.bitLenAux;rw [if_neg (by omega)]
  by_cases hx:x / 2=0
  ·have hx1:x=1:=by omega
   subst hx1;have e:Lib.bitLenAux f (1 / 2)=0:=by cases f<;>rfl
   rw [e];exact ⟨by omega,by decide,by decide⟩
  ·rw [Nat.pow_succ] at h1
   obtain ⟨a,b,c⟩:=ih (x / 2) (by omega) (by omega);generalize Lib.bitLenAux f (x / 2)=k at *;obtain ⟨j,rfl⟩:∃j,k=j+1:=⟨k-1,by omega⟩
   have e1:1+(j+1)-1=j+1:=by omega
   have e2:1+(j+1)=j+1+1:=by omega
   have e3:j+1-1=j:=by omega
   rw [e3] at b;rw [e1,e2,Nat.pow_succ,Nat.pow_succ 2 (j+1)];rw [Nat.pow_succ] at c;refine ⟨by omega,by omega,by omega⟩
theorem ziw {y:Int} (h0:0<y) (h1:y<18446744073709551616) :
  0<zcy y∧9223372036854775808≤y*2^(64-zcy y).toNat∧y*2^(64-zcy y).toNat<18446744073709551616:=by
 obtain ⟨n,rfl⟩:=Int.eq_ofNat_of_zero_le (show 0≤y by omega);have hb:=zbt (n:Int);unfold zcy Lib.bitLen at *;rw [Int.toNat_natCast] at *;obtain ⟨a,b,c⟩:=zey 64 n (by omega) (by omega);generalize Lib.bitLenAux 64 n=k at *;obtain ⟨j,rfl⟩:∃j,k=j+1:=⟨k-1,by omega⟩
 have e:((64:Int)-((j+1:Nat):Int)).toNat=64-(j+1):=by omega
 rw [e];have e3:j+1-1=j:=by omega
 rw [e3] at b;have p1:2^j*2^(64-(j+1))=2^63:=by rw [←Nat.pow_add];congr 1;omega
 have p2:2^(j+1)*2^(64-(j+1))=2^64:=by rw [←Nat.pow_add];congr 1;omega
 have q1:2^j*2^(64-(j+1))≤n*2^(64-(j+1)):=Nat.mul_le_mul_right _ b;have q2:n*2^(64-(j+1))<2^(j+1)*2^(64-(j+1)):=Nat.mul_lt_mul_of_pos_right c (Nat.pow_pos (by decide));rw [p1] at q1;rw [p2] at q2;have e4:((n:Int)*2^(64-(j+1)))=((n*2^(64-(j+1)):Nat):Int):=by simp
 rw [e4];generalize n*2^(64-(j+1))=m at *;omega
def dq (h l y:Int):Int:=(h*18446744073709551616+l) / y
def dr (h l y:Int):Int:=(h*18446744073709551616+l)%y
theorem zew (l y:Int) (w:World) (hl:0≤l∧l<18446744073709551616) (hy:0<y∧y<18446744073709551616) :
  Calls Tryz.prog 185 #[.int .u64 0,.int .u64 l,.int .u64 y] w fun e w'=>e=.returned (.tuple #[.int .u64 (l / y),.int .u64 (l%y)])∧Below w.heap.size w w':=by
 have h0:(y==0)=false:=beq_eq_false_iff_ne.mpr (by omega);have h1:decide (y≤0)=false:=decide_eq_false (by omega);go_enter Tryz.func185,Tryz.ntmps185;go_wp2_with fail
 go_quiet (fail)
 go_wp2_with fail
 go_ret2
 exact ⟨rfl,zgI (Below.refl _ _) _⟩
section
open Go.RowKit Go.Lib
theorem zlp {h l y:Int} {s:Nat} (hs:s≤64) (hh:0≤h∧h<y) (hl:0≤l∧l<18446744073709551616) (hy:y*2^s<18446744073709551616) :
  ∃u m:Int,0≤u∧u<y*2^s∧0≤m∧m<18446744073709551616∧(h*18446744073709551616+l)*2^s=u*18446744073709551616+m ∧
   IntKind.u64.wrap (l*2^s)=m∧bits .or .u64 (IntKind.u64.wrap (h*2^s)) (l / 2^(64-s))=u:=by
 obtain ⟨a,rfl⟩:=Int.eq_ofNat_of_zero_le hh.1;obtain ⟨b,rfl⟩:=Int.eq_ofNat_of_zero_le hl.1;obtain ⟨c,rfl⟩:=Int.eq_ofNat_of_zero_le (show 0≤y by omega);have hp:0<2^s:=Nat.pow_pos (by decide);have hq:0<2^(64-s):=Nat.pow_pos (by decide);have hpq:2^s*2^(64-s)=18446744073709551616:=by rw [←Nat.pow_add,show s+(64-s)=64 by omega]
 have hab:a<c:=by omega
 have hb:b<18446744073709551616:=by omega
 have hy':c*2^s<18446744073709551616:=by
  have:((c*2^s:Nat):Int)<18446744073709551616:=by simpa using hy
  omega
 have k1:(a+1)*2^s≤c*2^s:=Nat.mul_le_mul_right _ (by omega);have k2:(a+1)*2^s=a*2^s+2^s:=by rw [Nat.add_mul,Nat.one_mul]
 have k3:b / 2^(64-s)<2^s:=by
  rw [Nat.div_lt_iff_lt_mul hq,hpq];exact hb
 have k4:b*2^s / 18446744073709551616=b / 2^(64-s):=by
  rw [←hpq,Nat.mul_comm b,Nat.mul_div_mul_left _ _ hp]
 have k5:a*2^s ||| b / 2^(64-s)=a*2^s+b / 2^(64-s):=by
  rw [Nat.mul_comm a];exact (Nat.two_pow_add_eq_or_of_lt k3 a).symm
 have e1:((a:Int)*2^s)=((a*2^s:Nat):Int):=by simp
 have e2:((b:Int)*2^s)=((b*2^s:Nat):Int):=by simp
 have e3:((b:Int) / 2^(64-s))=((b / 2^(64-s):Nat):Int):=by simp
 have e4:((c:Int)*2^s)=((c*2^s:Nat):Int):=by simp
 have e5:(((a:Int)*18446744073709551616+b)*2^s)=(((a*2^s)*18446744073709551616+b*2^s:Nat):Int):=by
  rw [Int.natCast_add,Int.natCast_mul,Int.natCast_mul,Int.natCast_mul,Int.natCast_pow]
  grind
 refine ⟨((a*2^s+b / 2^(64-s):Nat):Int),((b*2^s%18446744073709551616:Nat):Int),by omega,?_,by omega,by omega,?_,?_,?_⟩
 ·rw [e4];omega
 ·rw [e5]
  have:=Nat.div_add_mod (b*2^s) 18446744073709551616;rw [k4] at this;omega
 ·rw [e2,Mul64.wrapM]
 ·rw [e1,e3,Mul64.wrapN _ (by omega),bits_or_u64_nat _ _ (by omega) (by omega),k5]
end
theorem Xab {P:Prop} (h:P:=by
 clear hc;go_wp2;clear eX eP hp0 hp1
 go_loop [18,16] (fun a b=>∃q r:Int,a=.int .u64 q∧b=.int .u64 r∧Hid (Dig X d0 v1 v0 q r)∧(0≤q∧q≤4294967297)∧0≤r∧r<4294967296) (fun _ b=>(4294967296-intOf b).toNat)
 case atStart=>exact ⟨q2,r2,by rw [E2.out],by first | rfl|(rw [E2.out,E3.out])|rw [E3.out],HD2,hq2,hr2⟩
 case round =>
  obtain ⟨q,r,rfl,rfl,HD,hq,hr0,hr1⟩:=hrel;have hp0:0≤q*v0:=Int.mul_nonneg hq.1 hv0.1;have hp1:q*v0≤4294967297*v0:=Int.mul_le_mul_of_nonneg_right hq.2 hv0.1;obtain ⟨p,hp⟩:=zc (q*v0);rw [hp] at hp0 hp1;have eP:IntKind.u64.wrap (q*v0)=p:=by rw [hp,IntKind.wrap_u64];omega
  have HP:=za hp
  by_cases hc:4294967296≤q∨4294967296*r+d0<p
  ·have HD':=za (HD.out.less hX.2 hv1.1 hv0.1 hd0.1 hd0.2 (by rw [HP.out];exact hc))
   clear hp;have hq1:1≤q:=by have:=HD'.out.q0;omega
   by_cases hn:r+v1<4294967296
   ·by_cases hc2:4294967296≤q
    ·clear hc
     go_wp2
     go_round
     case rel=>exact ⟨q-1,r+v1,rfl,rfl,HD', by omega,by omega,by omega⟩
     case measure=>simp [intOf];omega
    ·have hd:decide (4294967296*r+d0<p)=true:=decide_eq_true (by omega)
     clear hc;go_wp2
     go_round
     case rel=>exact ⟨q-1,r+v1,rfl,rfl,HD', by omega,by omega,by omega⟩
     case measure=>simp [intOf];omega
   ·have hqq:q-1=Q':=(HD'.out.far (by omega) hv1.1 hv0.1 hv0.2 hd0.1 (by omega)).symm.trans EQ'.out
    obtain ⟨q', rfl⟩:∃q', q=q'+1:=⟨q-1,by omega⟩
    obtain rfl:q'=Q':=by omega
    clear hqq
    by_cases hc2:4294967296≤q'+1
    ·have eE:=EDR.out
     clear hc;go_wp2
     go_ret2
     exact ⟨by rw [←EDQ.out];rfl,Below.refl _ _⟩
    ·have hd:decide (4294967296*r+d0<p)=true:=decide_eq_true (by omega)
     have eE:=EDR.out;clear hc;go_wp2
     go_ret2
     exact ⟨by rw [←EDQ.out];rfl,Below.refl _ _⟩
  ·obtain rfl:q=Q':=(HD.out.done hv1.1 hv0.1 (by rw [HP.out];omega)).symm.trans EQ'.out
   clear hp;have hc1:decide (4294967296*r+d0<p)=false:=decide_eq_false (by omega);have hc2:¬ 4294967296≤q:=by omega
   have eE:=EDR.out;clear hc;go_wp2
   go_ret2
   exact ⟨by rw [←EDQ.out];rfl,Below.refl _ _⟩) : P := h
theorem zlN (h l y:Int) (w:World) (hh:0<h∧h<y) (hl:0≤l∧l<18446744073709551616) (hy:0<y∧y<18446744073709551616)
  (s:Nat) (hs:64-zcy y=s) (hs':s≤64) (v1 v0 d1 d0 u:Int) (hv1:2147483648≤v1∧v1<4294967296) (hv0:0≤v0∧v0<4294967296) (hd1:0≤d1∧d1<4294967296) (hd0:0≤d0∧d0<4294967296) (hu:0≤u∧u<v1*4294967296+v0)
  (eY:IntKind.u64.wrap (y*2^s)=v1*4294967296+v0) (eL:IntKind.u64.wrap (l*2^s)=d1*4294967296+d0) (eU:bits .or .u64 (IntKind.u64.wrap (h*2^s)) (l / 2^(64-s))=u)
  (aY:bits .and .u64 (v1*4294967296+v0) 4294967295=v0) (aL:bits .and .u64 (d1*4294967296+d0) 4294967295=d0) (bY:(v1*4294967296+v0) / 4294967296=v1) (bL:(d1*4294967296+d0) / 4294967296=d1)
  (eS:(64-(s:Int)).toNat=64-s) (q0 r0:Int) (eQ:u / v1=q0) (eR:IntKind.u64.wrap (u-IntKind.u64.wrap (q0*v1))=r0) (HD0:Hid (Dig u d1 v1 v0 q0 r0)) (hr0:0≤r0∧r0<4294967296) (hq0:0≤q0∧q0≤4294967297)
  (Q X q2 r2 Q' DQ DR:Int) (EQ:Hid ((u*4294967296+d1) / (v1*4294967296+v0)=Q)) (hQ:0≤Q∧Q<4294967296) (hX:0≤X∧X<v1*4294967296+v0)
  (EX:Hid (IntKind.u64.wrap (IntKind.u64.wrap (IntKind.u64.wrap (u*4294967296)+d1)-IntKind.u64.wrap (Q*(v1*4294967296+v0)))=X))
  (E2:Hid (X / v1=q2)) (E3:Hid (IntKind.u64.wrap (X-IntKind.u64.wrap (q2*v1))=r2)) (HD2:Hid (Dig X d0 v1 v0 q2 r2)) (hr2:0≤r2∧r2<4294967296) (hq2:0≤q2∧q2≤4294967297)
  (EQ':Hid ((X*4294967296+d0) / (v1*4294967296+v0)=Q')) (hQ':0≤Q'∧Q'<4294967296)
  (EDQ:Hid (Q*4294967296+Q'=DQ))
  (EDR:Hid (IntKind.u64.wrap (IntKind.u64.wrap (IntKind.u64.wrap (X*4294967296)+d0)-IntKind.u64.wrap (Q'*(v1*4294967296+v0))) / 2^s=DR)) :
  Calls Tryz.prog 185 #[.int .u64 h,.int .u64 l,.int .u64 y] w fun e w'=>e=.returned (.tuple #[.int .u64 DQ,.int .u64 DR])∧Below w.heap.size w w':=by
 have h0:(y==0)=false:=beq_eq_false_iff_ne.mpr (by omega);have h1:decide (y≤h)=false:=decide_eq_false (by omega);have h2:(h==0)=false:=beq_eq_false_iff_ne.mpr (by omega);have hb:=zbt y;have HS:=za hs;have HQ:=za eQ;have HR:=za eR;clear hs eQ eR;go_enter Tryz.func185,Tryz.ntmps185;go_wp2_with (go_at_call 187;refine (Yu _ _ (by omega) (by omega)).mono ?_;rw [HS.out];rintro e w' ⟨rfl,rfl⟩)
 go_loop [15,16] (fun a b=>∃q r:Int,a=.int .u64 q∧b=.int .u64 r∧Hid (Dig u d1 v1 v0 q r)∧(0≤q∧q≤4294967297)∧0≤r∧r<4294967296) (fun _ b=>(4294967296-intOf b).toNat)
 case atStart=>exact ⟨q0,r0,by rw [HQ.out],by first | rfl|(rw [HQ.out,HR.out])|rw [HR.out],HD0,hq0,hr0⟩
 case round =>
  obtain ⟨q,r,rfl,rfl,HD,hq,hr0,hr1⟩:=hrel;have hp0:0≤q*v0:=Int.mul_nonneg hq.1 hv0.1;have hp1:q*v0≤4294967297*v0:=Int.mul_le_mul_of_nonneg_right hq.2 hv0.1;obtain ⟨p,hp⟩:=zc (q*v0);rw [hp] at hp0 hp1;have eP:IntKind.u64.wrap (q*v0)=p:=by rw [hp,IntKind.wrap_u64];omega
  have HP:=za hp
  by_cases hc:4294967296≤q∨4294967296*r+d1<p
  ·have HD':=za (HD.out.less hu.2 hv1.1 hv0.1 hd1.1 hd1.2 (by rw [HP.out];exact hc))
   clear hp;have hq1:1≤q:=by have:=HD'.out.q0;omega
   by_cases hn:r+v1<4294967296
   ·rcases hc with hc|hc
    ·go_wp2
     go_round
     case rel=>exact ⟨q-1,r+v1,rfl,rfl,HD', by omega,by omega,by omega⟩
     case measure=>simp [intOf];omega
    ·by_cases hc2:4294967296≤q
     ·go_wp2
      go_round
      case rel=>exact ⟨q-1,r+v1,rfl,rfl,HD', by omega,by omega,by omega⟩
      case measure=>simp [intOf];omega
     ·have hd:decide (4294967296*r+d1<p)=true:=decide_eq_true hc
      go_wp2
      go_round
      case rel=>exact ⟨q-1,r+v1,rfl,rfl,HD', by omega,by omega,by omega⟩
      case measure=>simp [intOf];omega
   ·have hqq:q-1=Q:=(HD'.out.far (by omega) hv1.1 hv0.1 hv0.2 hd1.1 (by omega)).symm.trans EQ.out
    obtain ⟨q', rfl⟩:∃q', q=q'+1:=⟨q-1,by omega⟩
    obtain rfl:q'=Q:=by omega
    clear hqq
    by_cases hc2:4294967296≤q'+1
    ·have eX:=EX.out
     exact Xab
    ·have hd:decide (4294967296*r+d1<p)=true:=decide_eq_true (by omega)
     have eX:=EX.out;exact Xab
  ·obtain rfl:q=Q:=(HD.out.done hv1.1 hv0.1 (by rw [HP.out];omega)).symm.trans EQ.out
   clear hp;have hc1:decide (4294967296*r+d1<p)=false:=decide_eq_false (by omega);have hc2:¬ 4294967296≤q:=by omega
   have eX:=EX.out;exact Xab
theorem zkG {x d v1 v0:Int} (hx:0≤x∧x<v1*4294967296+v0) (hv1:2147483648≤v1∧v1<4294967296) (hv0:0≤v0∧v0<4294967296) (hd:0≤d∧d<4294967296) :
  ∃q r,x / v1=q∧IntKind.u64.wrap (x-IntKind.u64.wrap (q*v1))=r∧Dig x d v1 v0 q r∧(0≤r∧r<4294967296)∧0≤q∧q≤4294967297:=by
 have D:=Dig.start hx.1 hx.2 hv1.1 hv1.2 hv0.1 hv0.2 hd.1 hd.2;have m1:=Int.emod_lt_of_pos x (show 0<v1 by omega);have e:=Int.mul_ediv_add_emod x v1;have ec:=Int.mul_comm v1 (x / v1);have hr:x-x / v1*v1<v1:=by omega
 have r0:=D.r0;have hp:0≤x / v1*v1:=Int.mul_nonneg D.q0 (by omega);refine ⟨x / v1,x-x / v1*v1,rfl,?_,D,⟨D.r0,by omega⟩,D.q0,D.q1⟩;rw [IntKind.wrap_u64,IntKind.wrap_u64];omega
theorem zlk {u d V:Int} (hu:0≤u∧u<V) (hV:V<18446744073709551616) (hd:0≤d∧d<4294967296) :
  (0≤(u*4294967296+d) / V∧(u*4294967296+d) / V<4294967296)∧(0≤(u*4294967296+d)%V∧(u*4294967296+d)%V<V) ∧
   IntKind.u64.wrap (IntKind.u64.wrap (IntKind.u64.wrap (u*4294967296)+d)-IntKind.u64.wrap ((u*4294967296+d) / V*V))=(u*4294967296+d)%V:=by
 have h0:0≤(u*4294967296+d) / V:=Int.ediv_nonneg (by omega) (by omega)
 have h1:(u*4294967296+d) / V<4294967296:=by
  refine Int.ediv_lt_of_lt_mul (by omega) ?_;have:(u+1)*4294967296≤V*4294967296:=Int.mul_le_mul_of_nonneg_right (by omega) (by decide);omega
 have h2:=Int.emod_nonneg (u*4294967296+d) (show V≠0 by omega);have h3:=Int.emod_lt_of_pos (u*4294967296+d) (show 0<V by omega);have e:=Int.mul_ediv_add_emod (u*4294967296+d) V;have ec:=Int.mul_comm V ((u*4294967296+d) / V);refine ⟨⟨h0,h1⟩,⟨h2,h3⟩,?_⟩;rw [IntKind.wrap_u64,IntKind.wrap_u64,IntKind.wrap_u64,IntKind.wrap_u64];omega
theorem jc (h l y:Int) (w:World) (hh:0≤h∧h<y) (hl:0≤l∧l<18446744073709551616) (hy:y<18446744073709551616) :
  Calls Tryz.prog 185 #[.int .u64 h,.int .u64 l,.int .u64 y] w fun e w'=>e=.returned (.tuple #[.int .u64 (dq h l y),.int .u64 (dr h l y)])∧Below w.heap.size w w':=by
 by_cases hz:h=0
 ·subst hz
  have e1:dq 0 l y=l / y:=by unfold dq;rw [Int.zero_mul,Int.zero_add]
  have e2:dr 0 l y=l%y:=by unfold dr;rw [Int.zero_mul,Int.zero_add]
  rw [e1,e2];exact zew l y w hl ⟨by omega,hy⟩
 have hy0:0<y:=by omega
 obtain ⟨n0,n1,n2⟩:=ziw hy0 hy;have hb:=zbt y;obtain ⟨s,hs⟩:=zc ((64-zcy y).toNat);rw [hs] at n1 n2;have hs64:s≤64:=by omega
 have hp:(0:Int)<2^s:=Int.pow_pos (by decide);obtain ⟨u,m,hu0,hu1,hm0,hm1,hN,eL,eU⟩:=zlp hs64 hh hl n2;obtain ⟨V,hV⟩:=zc (y*2^s);rw [hV] at n1 n2 hu1;have ev:=Int.mul_ediv_add_emod V 4294967296;have em:=Int.mul_ediv_add_emod m 4294967296;obtain ⟨v1,hv1⟩:=zc (V / 4294967296);obtain ⟨v0,hv0⟩:=zc (V%4294967296);obtain ⟨d1,hd1⟩:=zc (m / 4294967296);obtain ⟨d0,hd0⟩:=zc (m%4294967296)
 have bV:V=v1*4294967296+v0:=by omega
 have bm:m=d1*4294967296+d0:=by omega
 have b1:2147483648≤v1∧v1<4294967296:=by omega
 have b0:0≤v0∧v0<4294967296:=by omega
 have c1:0≤d1∧d1<4294967296:=by omega
 have c0:0≤d0∧d0<4294967296:=by omega
 have aY:bits .and .u64 (v1*4294967296+v0) 4294967295=v0:=by
  obtain ⟨k,hk⟩:=Int.eq_ofNat_of_zero_le (show 0≤v1*4294967296+v0 by omega);rw [hk,Mul64.maskN k (by omega)];omega
 have aL:bits .and .u64 (d1*4294967296+d0) 4294967295=d0:=by
  obtain ⟨k,hk⟩:=Int.eq_ofNat_of_zero_le (show 0≤d1*4294967296+d0 by omega);rw [hk,Mul64.maskN k (by omega)];omega
 obtain ⟨q0,r0,e1,e2,D0,g1,g2⟩:=zkG (x:=u) (d:=d1) (v1:=v1) (v0:=v0) (by omega) b1 b0 c1;have X1:=zlk (u:=u) (d:=d1) (V:=v1*4294967296+v0) (by omega) (by omega) c1;obtain ⟨Q,hQ⟩:=zc ((u*4294967296+d1) / (v1*4294967296+v0));obtain ⟨X,hX⟩:=zc ((u*4294967296+d1)%(v1*4294967296+v0));have k1:=Int.mul_ediv_add_emod (u*4294967296+d1) (v1*4294967296+v0)
 rw [hQ,hX] at X1 k1;obtain ⟨q2,r2,e3,e4,D2,g3,g4⟩:=zkG (x:=X) (d:=d0) (v1:=v1) (v0:=v0) X1.2.1 b1 b0 c0;have X2:=zlk (u:=X) (d:=d0) (V:=v1*4294967296+v0) X1.2.1 (by omega) c0;obtain ⟨Q', hQ'⟩:=zc ((X*4294967296+d0) / (v1*4294967296+v0));obtain ⟨R', hR'⟩:=zc ((X*4294967296+d0)%(v1*4294967296+v0));have k2:=Int.mul_ediv_add_emod (X*4294967296+d0) (v1*4294967296+v0)
 rw [hQ', hR'] at X2 k2
 have kk:(h*18446744073709551616+l)*2^s=(Q*4294967296+Q')*V+R':=by
  rw [hN,bm,bV];have z1:u*18446744073709551616=(u*4294967296)*4294967296:=by omega
  have z2:u*4294967296=(v1*4294967296+v0)*Q+X-d1:=by omega
  have z3:X*4294967296=(v1*4294967296+v0)*Q'+R'-d0:=by omega
  rw [z1,z2]
  grind
 have eDQ:Q*4294967296+Q'=dq h l y:=by
  have:(h*18446744073709551616+l)*2^s / (y*2^s)=Q*4294967296+Q':=by
   rw [kk,hV,Int.mul_comm _ V,Int.mul_add_ediv_left _ _ (by omega),Int.ediv_eq_zero_of_lt X2.2.1.1 (by omega),Int.add_zero]
  rw [Int.mul_ediv_mul_of_pos_left _ _ hp] at this;exact this.symm
 have eR:R'=dr h l y*2^s:=by
  have:(h*18446744073709551616+l)*2^s%(y*2^s)=R':=by
   rw [kk,hV,Int.mul_comm _ V,Int.mul_add_emod_self_left,Int.emod_eq_of_lt X2.2.1.1 (by omega)]
  rw [Int.mul_comm _ (2^s),Int.mul_comm y,Int.mul_emod_mul_of_pos _ _ hp] at this;rw [←this,Int.mul_comm];rfl
 have eDR:IntKind.u64.wrap (IntKind.u64.wrap (IntKind.u64.wrap (X*4294967296)+d0)-IntKind.u64.wrap (Q'*(v1*4294967296+v0))) / 2^s=dr h l y:=by
  rw [X2.2.2,eR,Int.mul_ediv_cancel _ (by omega)]
 exact zlN h l y w (by omega) hl ⟨hy0,hy⟩ s (by omega) hs64 v1 v0 d1 d0 u b1 b0 c1 c0 (by omega) (by rw [hV,←bV,IntKind.wrap_u64];omega) (by rw [eL];exact bm) eU aY aL (by omega) (by omega) (by omega) q0 r0 e1 e2 D0 g1 g2
  Q X q2 r2 Q' _ _ hQ X1.1 X1.2.1 X1.2.2 e3 e4 D2 g3 g4 hQ' X2.1 eDQ eDR
theorem Xak {P:Prop} (h:P:=by
 go_wp2_with (first | (go_at_call 64;refine (zx _ _).mono ?_;rintro e w' ⟨rfl,rfl⟩)|(go_at_call 184;refine (zy _ _).mono ?_;rintro e w' ⟨rfl,rfl⟩))
 go_ret2
 exact ⟨by rw [E.out];rfl,Below.refl _ _⟩) : P := h
theorem Xa9 {P:Prop} (h:P:=by
 go_enter Tryz.func180,Tryz.ntmps180;exact Xak) : P := h
theorem Xaa {P:Prop} (h:P:=by
 go_enter Tryz.func180,Tryz.ntmps180;go_wp2_with (first | (go_at_call 64;refine (zx _ _).mono ?_;rintro e w' ⟨rfl,rfl⟩)|(go_at_call 184;refine (zy _ _).mono ?_;rintro e w' ⟨rfl,rfl⟩)|(go_at_call 98;(with_reducible refine (Sa.out _).mono ?_);rintro e w' ⟨rfl,rfl⟩)|(go_at_call 98;(with_reducible refine (Sb.out _).mono ?_);rintro e w' ⟨rfl,rfl⟩)|(go_at_call 98;(with_reducible refine (Sc.out _).mono ?_);rintro e w' ⟨rfl,rfl⟩)|(go_at_call 97;(with_reducible refine (T.out _).mono ?_);rintro e w1 ⟨rfl,hb1⟩;have hB1:=za hb1;clear hb1)|(go_at_call 185;(with_reducible refine (D.out _).mono ?_);rintro e w2 ⟨rfl,hb2⟩;have hB2:=za (zi (zg hB1.out _) hb2);clear hb2))
 go_ret2
 exact ⟨by rw [E.out];rfl,hB2.out⟩) : P := h
theorem Xad {P:Prop} (h:P:=by
 have Sa:=za (show ∀W,Calls Tryz.prog 98 #[a] W fun e w'=>e=.returned (.int .u64 x)∧W=w' from fun W=>by rw [←Hx.out];exact zA a W (zr.mp ha).1 (zr.mp ha).2);have Sb:=za (show ∀W,Calls Tryz.prog 98 #[b] W fun e w'=>e=.returned (.int .u64 y)∧W=w' from fun W=>by rw [←Hy.out];exact zA b W (zr.mp hb).1 (zr.mp hb).2);have Sc:=za (show ∀W,Calls Tryz.prog 98 #[c] W fun e w'=>e=.returned (.int .u64 d)∧W=w' from fun W=>by rw [←Hd.out];exact zA c W (zr.mp hc).1 (zr.mp hc).2)
 have T:=za (show ∀W,Calls Tryz.prog 97 #[.int .u64 x,.int .u64 y] W fun e w'=>e=.returned (.agg #[.int .u64 p0,.int .u64 p1])∧Below W.heap.size W w' from fun W=>by rw [←H0.out,←H1.out];exact zW x y hx hy W);have hM:(!((!(decide (a<0)==decide (b<0)))==decide (c<0)))=true:=HM;clear HM;have D:=za (show ∀W,Calls Tryz.prog 185 #[.int .u64 p0,.int .u64 p1,.int .u64 d] W fun e w'=>e=.returned (.tuple #[.int .u64 q,.int .u64 r])∧Below W.heap.size W w' from fun W=>by rw [←Hq.out,←Hr.out];exact jc p0 p1 d W ⟨hp0,by omega⟩ hp1 (by omega))
 by_cases hover:4611686018427387903<q
 ·have E:=za (qZ (M:=true) (K:=false) hover)
  exact Xaa
 ·have E:=za (yM (q:=q) (M:=true) (by omega))
  have hq2:q≤4611686018427387903:=by omega
  exact Xaa) : P := h
theorem Xaf {P:Prop} (h:P:=by
 have Sa:=za (show ∀W,Calls Tryz.prog 98 #[a] W fun e w'=>e=.returned (.int .u64 x)∧W=w' from fun W=>by rw [←Hx.out];exact zA a W (zr.mp ha).1 (zr.mp ha).2);have Sb:=za (show ∀W,Calls Tryz.prog 98 #[b] W fun e w'=>e=.returned (.int .u64 y)∧W=w' from fun W=>by rw [←Hy.out];exact zA b W (zr.mp hb).1 (zr.mp hb).2);have Sc:=za (show ∀W,Calls Tryz.prog 98 #[c] W fun e w'=>e=.returned (.int .u64 d)∧W=w' from fun W=>by rw [←Hd.out];exact zA c W (zr.mp hc).1 (zr.mp hc).2)
 have T:=za (show ∀W,Calls Tryz.prog 97 #[.int .u64 x,.int .u64 y] W fun e w'=>e=.returned (.agg #[.int .u64 p0,.int .u64 p1])∧Below W.heap.size W w' from fun W=>by rw [←H0.out,←H1.out];exact zW x y hx hy W);have hM:(!((!(decide (a<0)==decide (b<0)))==decide (c<0)))=true:=HM;clear HM;have D:=za (show ∀W,Calls Tryz.prog 185 #[.int .u64 p0,.int .u64 p1,.int .u64 d] W fun e w'=>e=.returned (.tuple #[.int .u64 q,.int .u64 r])∧Below W.heap.size W w' from fun W=>by rw [←Hq.out,←Hr.out];exact jc p0 p1 d W ⟨hp0,by omega⟩ hp1 (by omega))
 by_cases hover:4611686018427387903<q
 ·have E:=za (qZ (M:=true) (K:=true) hover)
  exact Xaa
 ·by_cases htop:q=4611686018427387903
  ·have E:=za (show qL q true true=(0,false) by rw [htop];exact Zv)
   have ht:(q==4611686018427387903)=true:=beq_iff_eq.mpr htop;clear htop;exact Xaa
  ·have E:=za (vO (q:=q) (M:=true) (by omega))
   have ht:(q==4611686018427387903)=false:=beq_eq_false_iff_ne.mpr htop;have hq2:q<4611686018427387903:=by omega
   clear htop;exact Xaa) : P := h
def jq (m:Int):Bool:=decide (0≤m)&&decide (m≤2)
theorem zy (n:Int) (w:World):Calls Tryz.prog 184 #[n] w fun e w'=>e=.returned (.bool (jq n))∧w=w':=zfI n w
def j9 (q r d m:Int) (minus:Bool):Bool:=if r=0 then false else if m=0 then (decide (d-r<r) || (r==d-r&&q%2==1)) else ((m==2)!=minus)
def qL (q:Int) (minus more:Bool):Int×Bool :=
 if (decide (4611686018427387903<q) || (more&&q==4611686018427387903))=true then (0,false) else (if minus then -(if more then q+1 else q) else (if more then q+1 else q),true)
def ju (a b c:Int):Bool:=(decide (a<0)!=decide (b<0))!=decide (c<0)
def jK (a b c m:Int):Int×Bool :=
 if (inW a&&inW b&&inW c&&!(c==0)&&jq m)=true then
  if sz c≤hi (sz a) (sz b) then (0,false)
  else qL (dq (hi (sz a) (sz b)) (lo (sz a) (sz b)) (sz c)) (ju a b c) (j9 (dq (hi (sz a) (sz b)) (lo (sz a) (sz b)) (sz c)) (dr (hi (sz a) (sz b)) (lo (sz a) (sz b)) (sz c)) (sz c) m (ju a b c))
 else (0,false)
theorem ziR {n:Int} (h:inW n=true):0≤sz n∧sz n≤4611686018427387903:=by
 have:=zr.mp h;unfold sz;split<;>omega
theorem ziQ {n:Int} (h:¬n=0):0<sz n:=by unfold sz;split<;>omega
theorem zlr (a b c m:Int) (w:World) (h:(inW a&&inW b&&inW c&&!(c==0)&&jq m)=false) :
  Calls Tryz.prog 180 #[a,b,c,m] w fun e w'=>e=.returned (.tuple #[.int .i64 (jK a b c m).1,.bool (jK a b c m).2])∧Below w.heap.size w w':=by
 have E:=za (show jK a b c m=(0,false) by unfold jK;rw [h];rfl);rcases Bool.eq_false_or_eq_true (inW a) with ha|ha
 ·rcases Bool.eq_false_or_eq_true (inW b) with hb|hb
  ·rcases Bool.eq_false_or_eq_true (inW c) with hc|hc
   ·rcases Bool.eq_false_or_eq_true (c==0) with hz|hz
    ·clear h
     exact Xa9
    ·have hm:jq m=false:=by rw [ha,hb,hc,hz] at h;simpa using h
     clear h;exact Xa9
   ·clear h
    exact Xa9
  ·clear h
   exact Xa9
 ·clear h
  exact Xa9
theorem qZ {q:Int} {M K:Bool} (h:4611686018427387903<q):qL q M K=(0,false):=by
 unfold qL;rw [decide_eq_true h];rfl
theorem Zv {M:Bool}:qL 4611686018427387903 M true=(0,false):=by cases M<;>rfl
theorem vO {q:Int} {M:Bool} (h:q<4611686018427387903):qL q M true=(if M then -(q+1) else q+1,true):=by
 unfold qL;rw [decide_eq_false (by omega),beq_eq_false_iff_ne.mpr (show q≠4611686018427387903 by omega)];rfl
theorem yM {q:Int} {M:Bool} (h:q≤4611686018427387903):qL q M false=(if M then -q else q,true):=by
 unfold qL;rw [decide_eq_false (by omega)];rfl
theorem zlQ {q:Int} (h:0≤q∧q<18446744073709551616):bits .and .u64 q 1=q%2:=by
 obtain ⟨k,rfl⟩:=Int.eq_ofNat_of_zero_le h.1;have:=Go.bits_and_u64_nat k 1 (by omega) (by omega);have e:k &&& 1=k%2:=Nat.and_two_pow_sub_one_eq_mod k 1;rw [e] at this
 simpa using this
theorem zk2 (a b c m:Int) (w:World) (ha:inW a=true) (hb:inW b=true) (hc:inW c=true) (hz:(c==0)=false) (hm:jq m=true)
  (x y d p0 p1:Int) (hx:0≤x∧x<18446744073709551616) (hy:0≤y∧y<18446744073709551616) (hd:0<d∧d≤4611686018427387903) (hp0:0≤p0) (hp1:0≤p1∧p1<18446744073709551616)
  (Hx:Hid (sz a=x)) (Hy:Hid (sz b=y)) (Hd:Hid (sz c=d)) (H0:Hid (hi x y=p0)) (H1:Hid (lo x y=p1)) (hle:d≤p0) :
  Calls Tryz.prog 180 #[a,b,c,m] w fun e w'=>e=.returned (.tuple #[.int .i64 0,.bool false])∧Below w.heap.size w w':=by
 have Sa:=za (show ∀W,Calls Tryz.prog 98 #[a] W fun e w'=>e=.returned (.int .u64 x)∧W=w' from fun W=>by rw [←Hx.out];exact zA a W (zr.mp ha).1 (zr.mp ha).2);have Sb:=za (show ∀W,Calls Tryz.prog 98 #[b] W fun e w'=>e=.returned (.int .u64 y)∧W=w' from fun W=>by rw [←Hy.out];exact zA b W (zr.mp hb).1 (zr.mp hb).2);have Sc:=za (show ∀W,Calls Tryz.prog 98 #[c] W fun e w'=>e=.returned (.int .u64 d)∧W=w' from fun W=>by rw [←Hd.out];exact zA c W (zr.mp hc).1 (zr.mp hc).2)
 have T:=za (show ∀W,Calls Tryz.prog 97 #[.int .u64 x,.int .u64 y] W fun e w'=>e=.returned (.agg #[.int .u64 p0,.int .u64 p1])∧Below W.heap.size W w' from fun W=>by rw [←H0.out,←H1.out];exact zW x y hx hy W);go_enter Tryz.func180,Tryz.ntmps180;go_wp2_with (first | (go_at_call 64;refine (zx _ _).mono ?_;rintro e w' ⟨rfl,rfl⟩)|(go_at_call 184;refine (zy _ _).mono ?_;rintro e w' ⟨rfl,rfl⟩)|(go_at_call 98;(with_reducible refine (Sa.out _).mono ?_);rintro e w' ⟨rfl,rfl⟩)|(go_at_call 98;(with_reducible refine (Sb.out _).mono ?_);rintro e w' ⟨rfl,rfl⟩)|(go_at_call 98;(with_reducible refine (Sc.out _).mono ?_);rintro e w' ⟨rfl,rfl⟩)|(go_at_call 97;(with_reducible refine (T.out _).mono ?_);rintro e w1 ⟨rfl,hb1⟩;have hB1:=za hb1;clear hb1))
 go_ret2
 exact ⟨rfl,zg hB1.out _⟩
theorem zhP (a b c m:Int) (w:World) (ha:inW a=true) (hb:inW b=true) (hc:inW c=true) (hz:(c==0)=false) (hm:jq m=true)
  (x y d p0 p1 q r:Int) (hx:0≤x∧x<18446744073709551616) (hy:0≤y∧y<18446744073709551616) (hd:0<d∧d≤4611686018427387903) (hp0:0≤p0) (hp1:0≤p1∧p1<18446744073709551616)
  (Hx:Hid (sz a=x)) (Hy:Hid (sz b=y)) (Hd:Hid (sz c=d)) (H0:Hid (hi x y=p0)) (H1:Hid (lo x y=p1)) (Hq:Hid (dq p0 p1 d=q)) (Hr:Hid (dr p0 p1 d=r)) (hq:0≤q∧q<18446744073709551616) (hr:0≤r∧r<d) (HM:ju a b c=true) (hle:¬d≤p0) (hr0:(r==0)=true) :
  Calls Tryz.prog 180 #[a,b,c,m] w fun e w'=>e=.returned (.tuple #[.int .i64 (qL q true false).1,.bool (qL q true false).2])∧Below w.heap.size w w':=by
 exact Xad
theorem zgb (a b c m:Int) (w:World) (ha:inW a=true) (hb:inW b=true) (hc:inW c=true) (hz:(c==0)=false) (hm:jq m=true)
  (x y d p0 p1 q r:Int) (hx:0≤x∧x<18446744073709551616) (hy:0≤y∧y<18446744073709551616) (hd:0<d∧d≤4611686018427387903) (hp0:0≤p0) (hp1:0≤p1∧p1<18446744073709551616)
  (Hx:Hid (sz a=x)) (Hy:Hid (sz b=y)) (Hd:Hid (sz c=d)) (H0:Hid (hi x y=p0)) (H1:Hid (lo x y=p1)) (Hq:Hid (dq p0 p1 d=q)) (Hr:Hid (dr p0 p1 d=r)) (hq:0≤q∧q<18446744073709551616) (hr:0≤r∧r<d) (HM:ju a b c=true) (hle:¬d≤p0) (hr0:(r==0)=false) (hm0:(m==0)=true) (hg:d-r<r) :
  Calls Tryz.prog 180 #[a,b,c,m] w fun e w'=>e=.returned (.tuple #[.int .i64 (qL q true true).1,.bool (qL q true true).2])∧Below w.heap.size w w':=by
 exact Xaf
theorem ze4 (a b c m:Int) (w:World) (ha:inW a=true) (hb:inW b=true) (hc:inW c=true) (hz:(c==0)=false) (hm:jq m=true)
  (x y d p0 p1 q r:Int) (hx:0≤x∧x<18446744073709551616) (hy:0≤y∧y<18446744073709551616) (hd:0<d∧d≤4611686018427387903) (hp0:0≤p0) (hp1:0≤p1∧p1<18446744073709551616)
  (Hx:Hid (sz a=x)) (Hy:Hid (sz b=y)) (Hd:Hid (sz c=d)) (H0:Hid (hi x y=p0)) (H1:Hid (lo x y=p1)) (Hq:Hid (dq p0 p1 d=q)) (Hr:Hid (dr p0 p1 d=r)) (hq:0≤q∧q<18446744073709551616) (hr:0≤r∧r<d) (HM:ju a b c=true) (hle:¬d≤p0) (hr0:(r==0)=false) (hm0:(m==0)=true) (hg:¬d-r<r) (he:(r==d-r)=true) (b1:Int) (hb1:bits .and .u64 q 1=b1) (ho:(b1==1)=true) :
  Calls Tryz.prog 180 #[a,b,c,m] w fun e w'=>e=.returned (.tuple #[.int .i64 (qL q true true).1,.bool (qL q true true).2])∧Below w.heap.size w w':=by
 exact Xaf
theorem zd3 (a b c m:Int) (w:World) (ha:inW a=true) (hb:inW b=true) (hc:inW c=true) (hz:(c==0)=false) (hm:jq m=true)
  (x y d p0 p1 q r:Int) (hx:0≤x∧x<18446744073709551616) (hy:0≤y∧y<18446744073709551616) (hd:0<d∧d≤4611686018427387903) (hp0:0≤p0) (hp1:0≤p1∧p1<18446744073709551616)
  (Hx:Hid (sz a=x)) (Hy:Hid (sz b=y)) (Hd:Hid (sz c=d)) (H0:Hid (hi x y=p0)) (H1:Hid (lo x y=p1)) (Hq:Hid (dq p0 p1 d=q)) (Hr:Hid (dr p0 p1 d=r)) (hq:0≤q∧q<18446744073709551616) (hr:0≤r∧r<d) (HM:ju a b c=true) (hle:¬d≤p0) (hr0:(r==0)=false) (hm0:(m==0)=true) (hg:¬d-r<r) (he:(r==d-r)=true) (b1:Int) (hb1:bits .and .u64 q 1=b1) (ho:(b1==1)=false) :
  Calls Tryz.prog 180 #[a,b,c,m] w fun e w'=>e=.returned (.tuple #[.int .i64 (qL q true false).1,.bool (qL q true false).2])∧Below w.heap.size w w':=by
 exact Xad
theorem zga (a b c m:Int) (w:World) (ha:inW a=true) (hb:inW b=true) (hc:inW c=true) (hz:(c==0)=false) (hm:jq m=true)
  (x y d p0 p1 q r:Int) (hx:0≤x∧x<18446744073709551616) (hy:0≤y∧y<18446744073709551616) (hd:0<d∧d≤4611686018427387903) (hp0:0≤p0) (hp1:0≤p1∧p1<18446744073709551616)
  (Hx:Hid (sz a=x)) (Hy:Hid (sz b=y)) (Hd:Hid (sz c=d)) (H0:Hid (hi x y=p0)) (H1:Hid (lo x y=p1)) (Hq:Hid (dq p0 p1 d=q)) (Hr:Hid (dr p0 p1 d=r)) (hq:0≤q∧q<18446744073709551616) (hr:0≤r∧r<d) (HM:ju a b c=true) (hle:¬d≤p0) (hr0:(r==0)=false) (hm0:(m==0)=true) (hg:¬d-r<r) (he:(r==d-r)=false) :
  Calls Tryz.prog 180 #[a,b,c,m] w fun e w'=>e=.returned (.tuple #[.int .i64 (qL q true false).1,.bool (qL q true false).2])∧Below w.heap.size w w':=by
 exact Xad
theorem zf9 (a b c m:Int) (w:World) (ha:inW a=true) (hb:inW b=true) (hc:inW c=true) (hz:(c==0)=false) (hm:jq m=true)
  (x y d p0 p1 q r:Int) (hx:0≤x∧x<18446744073709551616) (hy:0≤y∧y<18446744073709551616) (hd:0<d∧d≤4611686018427387903) (hp0:0≤p0) (hp1:0≤p1∧p1<18446744073709551616)
  (Hx:Hid (sz a=x)) (Hy:Hid (sz b=y)) (Hd:Hid (sz c=d)) (H0:Hid (hi x y=p0)) (H1:Hid (lo x y=p1)) (Hq:Hid (dq p0 p1 d=q)) (Hr:Hid (dr p0 p1 d=r)) (hq:0≤q∧q<18446744073709551616) (hr:0≤r∧r<d) (HM:ju a b c=true) (hle:¬d≤p0) (hr0:(r==0)=false) (hm0:(m==0)=false) (h2:(m==2)=true) :
  Calls Tryz.prog 180 #[a,b,c,m] w fun e w'=>e=.returned (.tuple #[.int .i64 (qL q true false).1,.bool (qL q true false).2])∧Below w.heap.size w w':=by
 exact Xad
theorem zgc (a b c m:Int) (w:World) (ha:inW a=true) (hb:inW b=true) (hc:inW c=true) (hz:(c==0)=false) (hm:jq m=true)
  (x y d p0 p1 q r:Int) (hx:0≤x∧x<18446744073709551616) (hy:0≤y∧y<18446744073709551616) (hd:0<d∧d≤4611686018427387903) (hp0:0≤p0) (hp1:0≤p1∧p1<18446744073709551616)
  (Hx:Hid (sz a=x)) (Hy:Hid (sz b=y)) (Hd:Hid (sz c=d)) (H0:Hid (hi x y=p0)) (H1:Hid (lo x y=p1)) (Hq:Hid (dq p0 p1 d=q)) (Hr:Hid (dr p0 p1 d=r)) (hq:0≤q∧q<18446744073709551616) (hr:0≤r∧r<d) (HM:ju a b c=true) (hle:¬d≤p0) (hr0:(r==0)=false) (hm0:(m==0)=false) (h2:(m==2)=false) :
  Calls Tryz.prog 180 #[a,b,c,m] w fun e w'=>e=.returned (.tuple #[.int .i64 (qL q true true).1,.bool (qL q true true).2])∧Below w.heap.size w w':=by
 exact Xaf
theorem Xac {P:Prop} (h:P:=by
 have Sa:=za (show ∀W,Calls Tryz.prog 98 #[a] W fun e w'=>e=.returned (.int .u64 x)∧W=w' from fun W=>by rw [←Hx.out];exact zA a W (zr.mp ha).1 (zr.mp ha).2);have Sb:=za (show ∀W,Calls Tryz.prog 98 #[b] W fun e w'=>e=.returned (.int .u64 y)∧W=w' from fun W=>by rw [←Hy.out];exact zA b W (zr.mp hb).1 (zr.mp hb).2);have Sc:=za (show ∀W,Calls Tryz.prog 98 #[c] W fun e w'=>e=.returned (.int .u64 d)∧W=w' from fun W=>by rw [←Hd.out];exact zA c W (zr.mp hc).1 (zr.mp hc).2)
 have T:=za (show ∀W,Calls Tryz.prog 97 #[.int .u64 x,.int .u64 y] W fun e w'=>e=.returned (.agg #[.int .u64 p0,.int .u64 p1])∧Below W.heap.size W w' from fun W=>by rw [←H0.out,←H1.out];exact zW x y hx hy W);have hM:(!((!(decide (a<0)==decide (b<0)))==decide (c<0)))=false:=HM;clear HM;have D:=za (show ∀W,Calls Tryz.prog 185 #[.int .u64 p0,.int .u64 p1,.int .u64 d] W fun e w'=>e=.returned (.tuple #[.int .u64 q,.int .u64 r])∧Below W.heap.size W w' from fun W=>by rw [←Hq.out,←Hr.out];exact jc p0 p1 d W ⟨hp0,by omega⟩ hp1 (by omega))
 by_cases hover:4611686018427387903<q
 ·have E:=za (qZ (M:=false) (K:=false) hover)
  exact Xaa
 ·have E:=za (yM (q:=q) (M:=false) (by omega))
  have hq2:q≤4611686018427387903:=by omega
  exact Xaa) : P := h
theorem Xae {P:Prop} (h:P:=by
 have Sa:=za (show ∀W,Calls Tryz.prog 98 #[a] W fun e w'=>e=.returned (.int .u64 x)∧W=w' from fun W=>by rw [←Hx.out];exact zA a W (zr.mp ha).1 (zr.mp ha).2);have Sb:=za (show ∀W,Calls Tryz.prog 98 #[b] W fun e w'=>e=.returned (.int .u64 y)∧W=w' from fun W=>by rw [←Hy.out];exact zA b W (zr.mp hb).1 (zr.mp hb).2);have Sc:=za (show ∀W,Calls Tryz.prog 98 #[c] W fun e w'=>e=.returned (.int .u64 d)∧W=w' from fun W=>by rw [←Hd.out];exact zA c W (zr.mp hc).1 (zr.mp hc).2)
 have T:=za (show ∀W,Calls Tryz.prog 97 #[.int .u64 x,.int .u64 y] W fun e w'=>e=.returned (.agg #[.int .u64 p0,.int .u64 p1])∧Below W.heap.size W w' from fun W=>by rw [←H0.out,←H1.out];exact zW x y hx hy W);have hM:(!((!(decide (a<0)==decide (b<0)))==decide (c<0)))=false:=HM;clear HM;have D:=za (show ∀W,Calls Tryz.prog 185 #[.int .u64 p0,.int .u64 p1,.int .u64 d] W fun e w'=>e=.returned (.tuple #[.int .u64 q,.int .u64 r])∧Below W.heap.size W w' from fun W=>by rw [←Hq.out,←Hr.out];exact jc p0 p1 d W ⟨hp0,by omega⟩ hp1 (by omega))
 by_cases hover:4611686018427387903<q
 ·have E:=za (qZ (M:=false) (K:=true) hover)
  exact Xaa
 ·by_cases htop:q=4611686018427387903
  ·have E:=za (show qL q false true=(0,false) by rw [htop];exact Zv)
   have ht:(q==4611686018427387903)=true:=beq_iff_eq.mpr htop;clear htop;exact Xaa
  ·have E:=za (vO (q:=q) (M:=false) (by omega))
   have ht:(q==4611686018427387903)=false:=beq_eq_false_iff_ne.mpr htop;have hq2:q<4611686018427387903:=by omega
   clear htop;exact Xaa) : P := h
theorem zf8 (a b c m:Int) (w:World) (ha:inW a=true) (hb:inW b=true) (hc:inW c=true) (hz:(c==0)=false) (hm:jq m=true)
  (x y d p0 p1 q r:Int) (hx:0≤x∧x<18446744073709551616) (hy:0≤y∧y<18446744073709551616) (hd:0<d∧d≤4611686018427387903) (hp0:0≤p0) (hp1:0≤p1∧p1<18446744073709551616)
  (Hx:Hid (sz a=x)) (Hy:Hid (sz b=y)) (Hd:Hid (sz c=d)) (H0:Hid (hi x y=p0)) (H1:Hid (lo x y=p1)) (Hq:Hid (dq p0 p1 d=q)) (Hr:Hid (dr p0 p1 d=r)) (hq:0≤q∧q<18446744073709551616) (hr:0≤r∧r<d) (HM:ju a b c=false) (hle:¬d≤p0) (hr0:(r==0)=true) :
  Calls Tryz.prog 180 #[a,b,c,m] w fun e w'=>e=.returned (.tuple #[.int .i64 (qL q false false).1,.bool (qL q false false).2])∧Below w.heap.size w w':=by
 exact Xac
theorem ze6 (a b c m:Int) (w:World) (ha:inW a=true) (hb:inW b=true) (hc:inW c=true) (hz:(c==0)=false) (hm:jq m=true)
  (x y d p0 p1 q r:Int) (hx:0≤x∧x<18446744073709551616) (hy:0≤y∧y<18446744073709551616) (hd:0<d∧d≤4611686018427387903) (hp0:0≤p0) (hp1:0≤p1∧p1<18446744073709551616)
  (Hx:Hid (sz a=x)) (Hy:Hid (sz b=y)) (Hd:Hid (sz c=d)) (H0:Hid (hi x y=p0)) (H1:Hid (lo x y=p1)) (Hq:Hid (dq p0 p1 d=q)) (Hr:Hid (dr p0 p1 d=r)) (hq:0≤q∧q<18446744073709551616) (hr:0≤r∧r<d) (HM:ju a b c=false) (hle:¬d≤p0) (hr0:(r==0)=false) (hm0:(m==0)=true) (hg:d-r<r) :
  Calls Tryz.prog 180 #[a,b,c,m] w fun e w'=>e=.returned (.tuple #[.int .i64 (qL q false true).1,.bool (qL q false true).2])∧Below w.heap.size w w':=by
 exact Xae
theorem zd2 (a b c m:Int) (w:World) (ha:inW a=true) (hb:inW b=true) (hc:inW c=true) (hz:(c==0)=false) (hm:jq m=true)
  (x y d p0 p1 q r:Int) (hx:0≤x∧x<18446744073709551616) (hy:0≤y∧y<18446744073709551616) (hd:0<d∧d≤4611686018427387903) (hp0:0≤p0) (hp1:0≤p1∧p1<18446744073709551616)
  (Hx:Hid (sz a=x)) (Hy:Hid (sz b=y)) (Hd:Hid (sz c=d)) (H0:Hid (hi x y=p0)) (H1:Hid (lo x y=p1)) (Hq:Hid (dq p0 p1 d=q)) (Hr:Hid (dr p0 p1 d=r)) (hq:0≤q∧q<18446744073709551616) (hr:0≤r∧r<d) (HM:ju a b c=false) (hle:¬d≤p0) (hr0:(r==0)=false) (hm0:(m==0)=true) (hg:¬d-r<r) (he:(r==d-r)=true) (b1:Int) (hb1:bits .and .u64 q 1=b1) (ho:(b1==1)=true) :
  Calls Tryz.prog 180 #[a,b,c,m] w fun e w'=>e=.returned (.tuple #[.int .i64 (qL q false true).1,.bool (qL q false true).2])∧Below w.heap.size w w':=by
 exact Xae
theorem zcQ (a b c m:Int) (w:World) (ha:inW a=true) (hb:inW b=true) (hc:inW c=true) (hz:(c==0)=false) (hm:jq m=true)
  (x y d p0 p1 q r:Int) (hx:0≤x∧x<18446744073709551616) (hy:0≤y∧y<18446744073709551616) (hd:0<d∧d≤4611686018427387903) (hp0:0≤p0) (hp1:0≤p1∧p1<18446744073709551616)
  (Hx:Hid (sz a=x)) (Hy:Hid (sz b=y)) (Hd:Hid (sz c=d)) (H0:Hid (hi x y=p0)) (H1:Hid (lo x y=p1)) (Hq:Hid (dq p0 p1 d=q)) (Hr:Hid (dr p0 p1 d=r)) (hq:0≤q∧q<18446744073709551616) (hr:0≤r∧r<d) (HM:ju a b c=false) (hle:¬d≤p0) (hr0:(r==0)=false) (hm0:(m==0)=true) (hg:¬d-r<r) (he:(r==d-r)=true) (b1:Int) (hb1:bits .and .u64 q 1=b1) (ho:(b1==1)=false) :
  Calls Tryz.prog 180 #[a,b,c,m] w fun e w'=>e=.returned (.tuple #[.int .i64 (qL q false false).1,.bool (qL q false false).2])∧Below w.heap.size w w':=by
 exact Xac
theorem ze5 (a b c m:Int) (w:World) (ha:inW a=true) (hb:inW b=true) (hc:inW c=true) (hz:(c==0)=false) (hm:jq m=true)
  (x y d p0 p1 q r:Int) (hx:0≤x∧x<18446744073709551616) (hy:0≤y∧y<18446744073709551616) (hd:0<d∧d≤4611686018427387903) (hp0:0≤p0) (hp1:0≤p1∧p1<18446744073709551616)
  (Hx:Hid (sz a=x)) (Hy:Hid (sz b=y)) (Hd:Hid (sz c=d)) (H0:Hid (hi x y=p0)) (H1:Hid (lo x y=p1)) (Hq:Hid (dq p0 p1 d=q)) (Hr:Hid (dr p0 p1 d=r)) (hq:0≤q∧q<18446744073709551616) (hr:0≤r∧r<d) (HM:ju a b c=false) (hle:¬d≤p0) (hr0:(r==0)=false) (hm0:(m==0)=true) (hg:¬d-r<r) (he:(r==d-r)=false) :
  Calls Tryz.prog 180 #[a,b,c,m] w fun e w'=>e=.returned (.tuple #[.int .i64 (qL q false false).1,.bool (qL q false false).2])∧Below w.heap.size w w':=by
 exact Xac
theorem ze3 (a b c m:Int) (w:World) (ha:inW a=true) (hb:inW b=true) (hc:inW c=true) (hz:(c==0)=false) (hm:jq m=true)
  (x y d p0 p1 q r:Int) (hx:0≤x∧x<18446744073709551616) (hy:0≤y∧y<18446744073709551616) (hd:0<d∧d≤4611686018427387903) (hp0:0≤p0) (hp1:0≤p1∧p1<18446744073709551616)
  (Hx:Hid (sz a=x)) (Hy:Hid (sz b=y)) (Hd:Hid (sz c=d)) (H0:Hid (hi x y=p0)) (H1:Hid (lo x y=p1)) (Hq:Hid (dq p0 p1 d=q)) (Hr:Hid (dr p0 p1 d=r)) (hq:0≤q∧q<18446744073709551616) (hr:0≤r∧r<d) (HM:ju a b c=false) (hle:¬d≤p0) (hr0:(r==0)=false) (hm0:(m==0)=false) (h2:(m==2)=true) :
  Calls Tryz.prog 180 #[a,b,c,m] w fun e w'=>e=.returned (.tuple #[.int .i64 (qL q false true).1,.bool (qL q false true).2])∧Below w.heap.size w w':=by
 exact Xae
theorem ze7 (a b c m:Int) (w:World) (ha:inW a=true) (hb:inW b=true) (hc:inW c=true) (hz:(c==0)=false) (hm:jq m=true)
  (x y d p0 p1 q r:Int) (hx:0≤x∧x<18446744073709551616) (hy:0≤y∧y<18446744073709551616) (hd:0<d∧d≤4611686018427387903) (hp0:0≤p0) (hp1:0≤p1∧p1<18446744073709551616)
  (Hx:Hid (sz a=x)) (Hy:Hid (sz b=y)) (Hd:Hid (sz c=d)) (H0:Hid (hi x y=p0)) (H1:Hid (lo x y=p1)) (Hq:Hid (dq p0 p1 d=q)) (Hr:Hid (dr p0 p1 d=r)) (hq:0≤q∧q<18446744073709551616) (hr:0≤r∧r<d) (HM:ju a b c=false) (hle:¬d≤p0) (hr0:(r==0)=false) (hm0:(m==0)=false) (h2:(m==2)=false) :
  Calls Tryz.prog 180 #[a,b,c,m] w fun e w'=>e=.returned (.tuple #[.int .i64 (qL q false false).1,.bool (qL q false false).2])∧Below w.heap.size w w':=by
 exact Xac
theorem Jw (a b c m : Int) (w : World) :
    Calls Tryz.prog 180 #[a, b, c, m] w fun e w' => e = .returned (.tuple #[.int .i64 (jK a b c m).1, .bool (jK a b c m).2]) ∧ Below w.heap.size w w' := by
  rcases Bool.eq_false_or_eq_true (inW a && inW b && inW c && !(c == 0) && jq m) with h | h
  · have E : jK a b c m = if sz c ≤ hi (sz a) (sz b) then (0, false)
        else qL (dq (hi (sz a) (sz b)) (lo (sz a) (sz b)) (sz c)) (ju a b c) (j9 (dq (hi (sz a) (sz b)) (lo (sz a) (sz b)) (sz c)) (dr (hi (sz a) (sz b)) (lo (sz a) (sz b)) (sz c)) (sz c) m (ju a b c)) := by
      unfold jK; rw [h]; rfl
    rw [E]; clear E;simp only [Bool.and_eq_true] at h;obtain ⟨⟨⟨⟨ha, hb⟩, hc⟩, hz⟩, hm⟩ := h;have hz' : (c == 0) = false := by simpa using hz
    have hcn : ¬ c = 0 := beq_eq_false_iff_ne.mp hz';have ba := ziR ha;have bb := ziR hb;have bc := ziR hc;have bc0 := ziQ hcn;obtain ⟨x, Hx⟩ := zc (sz a);obtain ⟨y, Hy⟩ := zc (sz b);obtain ⟨d, Hd⟩ := zc (sz c);rw [Hx] at ba; rw [Hy] at bb; rw [Hd] at bc bc0;have hxy : 0 ≤ x * y := Int.mul_nonneg ba.1 bb.1;have g0 : 0 ≤ hi x y := by unfold hi; omega
    have g1 : 0 ≤ lo x y ∧ lo x y < 18446744073709551616 := by unfold lo; omega
    rw [Hx, Hy, Hd];obtain ⟨p0, H0⟩ := zc (hi x y);obtain ⟨p1, H1⟩ := zc (lo x y);rw [H0] at g0; rw [H1] at g1;rw [H0, H1]
    by_cases hle : d ≤ p0
    · rw [if_pos hle]
      obtain ⟨q, Hq⟩ := zc (dq p0 p1 d);obtain ⟨r, Hr⟩ := zc (dr p0 p1 d);exact zk2 a b c m w ha hb hc hz' hm x y d p0 p1 (by omega) (by omega) (by omega) g0 g1 Hx Hy Hd H0 H1 hle
    · rw [if_neg hle]
      have k1 : 0 ≤ dq p0 p1 d ∧ dq p0 p1 d < 18446744073709551616 := by
        unfold dq;constructor
        · exact Int.ediv_nonneg (by omega) (by omega)
        · refine Int.ediv_lt_of_lt_mul (by omega) ?_
          have : (p0 + 1) * 18446744073709551616 ≤ d * 18446744073709551616 := Int.mul_le_mul_of_nonneg_right (by omega) (by decide);omega
      have k2 : 0 ≤ dr p0 p1 d ∧ dr p0 p1 d < d := by
        unfold dr;exact ⟨Int.emod_nonneg _ (by omega), Int.emod_lt_of_pos _ (by omega)⟩
      obtain ⟨q, Hq⟩ := zc (dq p0 p1 d);obtain ⟨r, Hr⟩ := zc (dr p0 p1 d);rw [Hq] at k1; rw [Hr] at k2;rw [Hq, Hr];have hx : 0 ≤ x ∧ x < 18446744073709551616 := by omega
      have hy : 0 ≤ y ∧ y < 18446744073709551616 := by omega
      have hd : 0 < d ∧ d ≤ 4611686018427387903 := by omega
      have e1 := zlQ k1;rcases Bool.eq_false_or_eq_true (ju a b c) with hM | hM
      all_goals
        rw [hM]
        by_cases z : r = 0
        · rw [show j9 q r d m _ = false from if_pos z]
          first
            | exact zhP a b c m w ha hb hc hz' hm x y d p0 p1 q r hx hy hd g0 g1 Hx Hy Hd H0 H1 Hq Hr k1 k2 hM hle (beq_iff_eq.mpr z)
            | exact zf8 a b c m w ha hb hc hz' hm x y d p0 p1 q r hx hy hd g0 g1 Hx Hy Hd H0 H1 Hq Hr k1 k2 hM hle (beq_iff_eq.mpr z)
        · have z' : (r == 0) = false := beq_eq_false_iff_ne.mpr z
          by_cases m0 : m = 0
          · have m0' : (m == 0) = true := beq_iff_eq.mpr m0
            by_cases hg : d - r < r
            · rw [show j9 q r d m _ = true by unfold j9; rw [if_neg z, if_pos m0, decide_eq_true hg]; rfl]
              first
                | exact zgb a b c m w ha hb hc hz' hm x y d p0 p1 q r hx hy hd g0 g1 Hx Hy Hd H0 H1 Hq Hr k1 k2 hM hle z' m0' hg
                | exact ze6 a b c m w ha hb hc hz' hm x y d p0 p1 q r hx hy hd g0 g1 Hx Hy Hd H0 H1 Hq Hr k1 k2 hM hle z' m0' hg
            · rcases Bool.eq_false_or_eq_true (r == d - r) with he | he
              · rcases Bool.eq_false_or_eq_true (q % 2 == 1) with ho | ho
                · rw [show j9 q r d m _ = true by unfold j9; rw [if_neg z, if_pos m0, decide_eq_false hg, he, ho]; rfl]
                  first
                    | exact ze4 a b c m w ha hb hc hz' hm x y d p0 p1 q r hx hy hd g0 g1 Hx Hy Hd H0 H1 Hq Hr k1 k2 hM hle z' m0' hg he _ e1 ho
                    | exact zd2 a b c m w ha hb hc hz' hm x y d p0 p1 q r hx hy hd g0 g1 Hx Hy Hd H0 H1 Hq Hr k1 k2 hM hle z' m0' hg he _ e1 ho
                · rw [show j9 q r d m _ = false by unfold j9; rw [if_neg z, if_pos m0, decide_eq_false hg, he, ho]; rfl]
                  first
                    | exact zd3 a b c m w ha hb hc hz' hm x y d p0 p1 q r hx hy hd g0 g1 Hx Hy Hd H0 H1 Hq Hr k1 k2 hM hle z' m0' hg he _ e1 ho
                    | exact zcQ a b c m w ha hb hc hz' hm x y d p0 p1 q r hx hy hd g0 g1 Hx Hy Hd H0 H1 Hq Hr k1 k2 hM hle z' m0' hg he _ e1 ho
              · rw [show j9 q r d m _ = false by unfold j9; rw [if_neg z, if_pos m0, decide_eq_false hg, he]; rfl]
                first
                  | exact zga a b c m w ha hb hc hz' hm x y d p0 p1 q r hx hy hd g0 g1 Hx Hy Hd H0 H1 Hq Hr k1 k2 hM hle z' m0' hg he
                  | exact ze5 a b c m w ha hb hc hz' hm x y d p0 p1 q r hx hy hd g0 g1 Hx Hy Hd H0 H1 Hq Hr k1 k2 hM hle z' m0' hg he
          · have m0' : (m == 0) = false := beq_eq_false_iff_ne.mpr m0
            rcases Bool.eq_false_or_eq_true (m == 2) with h2 | h2
            · first
                | (rw [show j9 q r d m true = false by unfold j9; rw [if_neg z, if_neg m0, h2]; rfl]
                   exact zf9 a b c m w ha hb hc hz' hm x y d p0 p1 q r hx hy hd g0 g1 Hx Hy Hd H0 H1 Hq Hr k1 k2 hM hle z' m0' h2)
                | (rw [show j9 q r d m false = true by unfold j9; rw [if_neg z, if_neg m0, h2]; rfl]
                   exact ze3 a b c m w ha hb hc hz' hm x y d p0 p1 q r hx hy hd g0 g1 Hx Hy Hd H0 H1 Hq Hr k1 k2 hM hle z' m0' h2)
            · first
                | (rw [show j9 q r d m true = true by unfold j9; rw [if_neg z, if_neg m0, h2]; rfl]
                   exact zgc a b c m w ha hb hc hz' hm x y d p0 p1 q r hx hy hd g0 g1 Hx Hy Hd H0 H1 Hq Hr k1 k2 hM hle z' m0' h2)
                | (rw [show j9 q r d m false = false by unfold j9; rw [if_neg z, if_neg m0, h2]; rfl]
                   exact ze7 a b c m w ha hb hc hz' hm x y d p0 p1 q r hx hy hd g0 g1 Hx Hy Hd H0 H1 Hq Hr k1 k2 hM hle z' m0' h2)
  · exact zlr a b c m w h
theorem Xah {P:Prop} (h:P:=by
 have hXor:bits .or .u64 (qd Q K) (IntKind.u64.wrap (2^(62-K)))=X:=by rw [←hX];exact zkJ Q K hlt
 have hXb:0≤X∧X<18446744073709551616:=by
  obtain ⟨b0,b1,_⟩:=vM Q K (by omega);have e:=zbF hlt;have hp:(0:Int)<2^(62-K):=Int.pow_pos (by decide);omega
 have hT:=za (fun W=>zW X X hXb hXb W);have hL:=za (fun W=>ZA p0 p1 (hi X X) (lo X X) W);have hcmp:=zg5 (x:=X) (y:=X) HQ.out hp1
 by_cases hlow:Q<X*X
 ·have hnext:=za (show qd Q (K+1)=qd Q K by show yK _ _ _=_;unfold yK;rw [hX,if_pos hlow])
  rw [decide_eq_true hlow] at hcmp;clear hX hlow;go_wp2;refine qW (by kernel_rfl) (by kernel_rfl) ?_;have kc0:=fun x=>Ext.cell hc0 x;have kc1:=fun x=>Ext.cell hc1 x
  repeat (go_big_quiet_step ((first | (go_at_call 97;exact Calls.ext _ (hT.out _))|(go_at_call 99;exact Calls.ext _ (hL.out _)))))
  refine wpQuiet_nil ?_;rintro _ ⟨x,rfl⟩;have hA2:=za (hAt.out.below x.below);have hB2:=za (zi hBe.out x.below);clear kc0 kc1;go_wp2;go_roundw
  case rel=>exact ⟨K+1,by omega,by go_num,by rw [hnext.out],hA2,hB2⟩
  case measure=>simp [intOf];omega
 ·have hnext:=za (show qd Q (K+1)=X by show yK _ _ _=_;unfold yK;rw [hX,if_neg hlow])
  rw [decide_eq_false hlow] at hcmp;clear hX hlow;go_wp2;refine qW (by kernel_rfl) (by kernel_rfl) ?_;have kc0:=fun x=>Ext.cell hc0 x;have kc1:=fun x=>Ext.cell hc1 x
  repeat (go_big_quiet_step ((first | (go_at_call 97;exact Calls.ext _ (hT.out _))|(go_at_call 99;exact Calls.ext _ (hL.out _)))))
  refine wpQuiet_nil ?_;rintro _ ⟨x,rfl⟩;have hA2:=za (hAt.out.below x.below);have hB2:=za (zi hBe.out x.below);clear kc0 kc1;go_wp2;go_roundw
  case rel=>exact ⟨K+1,by omega,by go_num,by rw [hnext.out],hA2,hB2⟩
  case measure=>simp [intOf];omega) : P := h
theorem Xan {P:Prop} (h:P:=by
 rw [hW0] at hA hBB ⊢;clear hg hW0 hB1 w1
 go_loopw [9,10,11,47] (fun r k x i W=>∃K:Nat,K≤63∧i=.int .i64 K∧r=.int .u64 (qd Q K)∧Hid (At W g 158 #[.int .u64 p0,.int .u64 p1])∧Hid (Below w.heap.size w W)) (fun _ _ _ i _=>63-(intOf i).toNat)
 case atStart=>exact ⟨0,by omega,rfl,rfl,hA,hBB⟩
 case round =>
  obtain ⟨K,hK,rfl,rfl,hAt,hBe⟩:=hrel;have hc0:=hAt.out.cell 0;have hc1:=hAt.out.cell 1
  by_cases hlt:K<63
  ·obtain ⟨X,hX⟩:=zc (qd Q K+2^(62-K))
   exact Xah
  ·obtain rfl:K=63:=by omega
   have hR:=HR.out;have hR0:0≤R:=by rw [←hR];exact (vM Q 63 (by omega)).1
   have hT:=za (fun W=>zW R R (by omega) (by omega) W);have hT2:=za (fun W=>zW R (R+1) (by omega) (by omega) W);have hL:=za (fun W=>ZA (hi R (R+1)) (lo R (R+1)) p0 p1 W);have hcmp:=zfa (x:=R) (y:=R+1) HQ.out hp1;have heq2:=zhd (x:=R) (y:=R) HQ.out hp1;have hE:=zkO (hi R R) (lo R R) p0 p1;rw [heq2] at hE;obtain ⟨E,hEE⟩:=zc ((R*R==Q));obtain ⟨N,hNN⟩:=zc (decide (R*(R+1)<Q))
   have hn:=HN.out;unfold Qi at hn;rw [hEE,hNN] at hn;rw [hEE] at hE;rw [hNN] at hcmp;clear hEE hNN heq2;obtain ⟨B2,hB2⟩:=zc ((m==2));obtain ⟨B0,hB0⟩:=zc ((m==0));rw [hB2,hB0] at hn;cases E<;>cases B2<;>cases B0<;>cases N
   all_goals
    have Hn:=za hn;clear hn;go_wp2;refine qW (by kernel_rfl) (by kernel_rfl) ?_;have kc0:=fun x=>Ext.cell hc0 x;have kc1:=fun x=>Ext.cell hc1 x
    repeat (go_big_quiet_step ((first | (go_at_call 97;exact Calls.ext _ (hT.out _)))))
    refine wpQuiet_nil ?_;rintro _ ⟨x,rfl⟩;have hA2:=za (hAt.out.below x.below);have hB3:=za (zi hBe.out x.below);clear kc0 kc1;have hd0:=hA2.out.cell 0;have hd1:=hA2.out.cell 1;go_wp2;refine qW (by kernel_rfl) (by kernel_rfl) ?_;have kc0:=fun x=>Ext.cell hd0 x;have kc1:=fun x=>Ext.cell hd1 x
    repeat (go_big_quiet_step ((first | (go_at_call 97;exact Calls.ext _ (hT2.out _))|(go_at_call 99;exact Calls.ext _ (hL.out _)))))
    refine wpQuiet_nil ?_;rintro _ ⟨y,rfl⟩;have hB4:=za (zi hB3.out y.below);clear kc0 kc1;go_wp2
    go_ret2
    exact ⟨by rw [←Hn.out];rfl,hB4.out⟩) : P := h
theorem Xax {P:Prop} (h:P:=by
 have ba:=zr.mp ha
 have Sa:=za (show ∀W,Calls Tryz.prog 98 #[a] W fun e w'=>e=.returned (.int .u64 a)∧W=w' from fun W=>by
  have:=zA a W (zr.mp ha).1 (zr.mp ha).2;rw [zbJ (by omega)] at this;exact this)
 have Sb:=za (show ∀W,Calls Tryz.prog 98 #[.int .i64 16777216] W fun e w'=>e=.returned (.int .u64 16777216)∧W=w' from fun W=>zA 16777216 W (by decide) (by decide));have T:=za (show ∀W,Calls Tryz.prog 97 #[.int .u64 a,.int .u64 16777216] W fun e w'=>e=.returned (.agg #[.int .u64 p0,.int .u64 p1])∧Below W.heap.size W w' from fun W=>by rw [←H0.out,←H1.out];exact zW a 16777216 (by omega) (by decide) W)
 have hW:inW 16777216=true:=by decide
 have hlt:decide (a<0)=false:=decide_eq_false (by omega);have HQ:=za hQ;have HQ1:=za hQ1;have HR:=za hR;have HN:=za hn;clear hQ hQ1 hR hn;go_enter Tryz.func242,Tryz.ntmps242;go_wp2_with (first | (go_at_call 64;refine (zx _ _).mono ?_;rintro e w' ⟨rfl,rfl⟩)|(go_at_call 184;refine (zy _ _).mono ?_;rintro e w' ⟨rfl,rfl⟩)|(go_at_call 98;(with_reducible refine (Sa.out _).mono ?_);rintro e w' ⟨rfl,rfl⟩)|(go_at_call 98;(with_reducible refine (Sb.out _).mono ?_);rintro e w' ⟨rfl,rfl⟩)|(go_at_call 97;(with_reducible refine (T.out _).mono ?_);rintro e w1 ⟨rfl,hb1⟩;have hB1:=za hb1;clear hb1))
 obtain ⟨g,hg⟩:=zc (w1.heap.size);have hA:=za (At.new w1 158 #[.int .u64 p0,.int .u64 p1]);have hBB:=za (zg hB1.out (.cells #[.int .u64 p0,.int .u64 p1] 158));obtain ⟨W0,hW0⟩:=zc (w1.alloc (.cells #[.int .u64 p0,.int .u64 p1] 158));rw [hg] at hA ⊢;exact Xan) : P := h
def Qi (Q R m:Int):Bool:=!(R*R==Q)&&(m==2 || (m==0&&decide (R*(R+1)<Q)))
def Jg (a m:Int):Int×Bool :=
 if (inW a&&jq m&&!decide (a<0))=true then (if Qi (a*16777216) (qd (a*16777216) 63) m then qd (a*16777216) 63+1 else qd (a*16777216) 63,true) else (0,false)
theorem zkk:∃i,Tryz.prog.info? 137=some i:=Option.isSome_iff_exists.mp (show (Tryz.prog.info? 137).isSome=true by kernel_rfl)
theorem zkO (a b c d:Int) (w:World):(binOp .eql 158 (.agg #[.int .u64 a,.int .u64 b]) (.agg #[.int .u64 c,.int .u64 d])).run Tryz.prog w=.ok (.bool (a==c&&b==d)) w:=by
 have hu:Tryz.prog.underlying 158=some (.array 2 137):=by kernel_rfl
 have hc:Tryz.prog.cellsOf 137=1:=by kernel_rfl
 have h7:Tryz.prog.underlying 137=some (.int .u64):=by kernel_rfl
 have p0:∀(x y:Int) (w:World),(part 137 #[.int .u64 x,.int .u64 y] 0).run Tryz.prog w=.ok (.int .u64 x) w:=fun x y w=>by kernel_rfl
 have p1:∀(x y:Int) (w:World),(part 137 #[.int .u64 x,.int .u64 y] 1).run Tryz.prog w=.ok (.int .u64 y) w:=fun x y w=>by kernel_rfl
 obtain ⟨i,hi⟩:=zkk;have h:=run_equalIn_array (P:=Tryz.prog) w 9999 (t:=158) #[.int .u64 a,.int .u64 b] #[.int .u64 c,.int .u64 d] hu hi;rw [run_eql_struct,h,hc];have e:List.range 2=[0,1]:=rfl;rw [e];simp only [Op.eqItems,Sem.run_bind,Nat.zero_mul,Nat.one_mul,p0,p1,Result.andThen_ok,run_equalIn_int w 9998 137 .u64 .u64 _ _ h7];have hq:=fun x y=>run_equalIn_int (P:=Tryz.prog) w 9998 137 .u64 .u64 x y h7
 cases (a==c)<;>cases hbd:(b==d)<;>simp [p1,hq,hbd]
theorem zhI (a m : Int) (w : World) (ha : inW a = true) (ha0 : 0 ≤ a) (hm : jq m = true) (hz : (a != 0) = true)
  (Q p0 p1 : Int) (hQ : Q = p0 * 18446744073709551616 + p1) (hQ1 : 0 ≤ Q ∧ Q < 2 ^ 126) (hp0 : 0 ≤ p0 ∧ p0 < 18446744073709551616) (hp1 : 0 ≤ p1 ∧ p1 < 18446744073709551616)
  (H0 : Hid (hi a 16777216 = p0)) (H1 : Hid (lo a 16777216 = p1)) (R : Int) (hR : qd Q 63 = R) (hR2 : R < 4611686018427387904) (n : Int) (hn : (if Qi Q R m then R + 1 else R) = n) :
  Calls Tryz.prog 242 #[a, .int .i64 16777216, m] w fun e w' => e = .returned (.tuple #[n, .bool true]) ∧ Below w.heap.size w w' := by
 exact Xax
theorem zfZ (a m : Int) (w : World) (ha : inW a = true) (ha0 : 0 ≤ a) (hm : jq m = true) (hz : (a != 0) = false)
  (Q p0 p1 : Int) (hQ : Q = p0 * 18446744073709551616 + p1) (hQ1 : 0 ≤ Q ∧ Q < 2 ^ 126) (hp0 : 0 ≤ p0 ∧ p0 < 18446744073709551616) (hp1 : 0 ≤ p1 ∧ p1 < 18446744073709551616)
  (H0 : Hid (hi a 16777216 = p0)) (H1 : Hid (lo a 16777216 = p1)) (R : Int) (hR : qd Q 63 = R) (hR2 : R < 4611686018427387904) (n : Int) (hn : (if Qi Q R m then R + 1 else R) = n) :
  Calls Tryz.prog 242 #[a, .int .i64 16777216, m] w fun e w' => e = .returned (.tuple #[n, .bool true]) ∧ Below w.heap.size w w' := by
 exact Xax
theorem XaN {P:Prop} (h:P:=by
 go_wp2_with (first | (go_at_call 180;(with_reducible refine (HC.out _).mono ?_);rintro e w1 ⟨rfl,hb1⟩;have hB1:=za hb1;clear hb1)|(go_at_call 239;(with_reducible refine (HT.out _ _ (At.new _ _ _)).mono ?_);rintro e w2 ⟨rfl,hb2⟩;have hB2:=za (zi (zg hB1.out _) hb2);clear hb2))
 go_ret2
 exact ⟨rfl,hB2.out⟩) : P := h
def vQ (a b m:Int):Int×Bool:=vL (jK a b 16777216 m).1 (jK a b 16777216 m).2 [a,b]
def jX (a b m:Int):Int×Bool:=vL (jK a 16777216 b m).1 (jK a 16777216 b m).2 [a,b]
def fof (n:Int):Int×Bool:=vL (jK n 16777216 1 0).1 (jK n 16777216 1 0).2 []
theorem zli (n:Int) (is:Bool) (a:Int) (g:Nat) (w:World) (h:At w g 3 #[a]) :
  Calls Tryz.prog 239 #[n,is,.slice (some ⟨g,0,none⟩) 1 1] w fun e w'=>e=.returned (.tuple #[.int .i64 (vL n is [a]).1,.bool (vL n is [a]).2])∧Below w.heap.size w w' :=
 zeg n is (some ⟨g,0,none⟩) [a] w (by simp) (fun h=>by cases h) (fun b hb j u hj=>by
  cases hb
  match j,hj with
  | 0,hj=>simp at hj;subst hj;exact h.cell 0
  | j+1,hj=>simp at hj)
theorem zkF (n:Int) (is:Bool) (a b:Int) (g:Nat) (w:World) (h:At w g 3 #[a,b]) :
  Calls Tryz.prog 239 #[n,is,.slice (some ⟨g,0,none⟩) 2 2] w fun e w'=>e=.returned (.tuple #[.int .i64 (vL n is [a,b]).1,.bool (vL n is [a,b]).2])∧Below w.heap.size w w' :=
 zeg n is (some ⟨g,0,none⟩) [a,b] w (by simp) (fun h=>by cases h) (fun b hb j u hj=>by
  cases hb
  match j,hj with
  | 0,hj=>simp at hj;subst hj;exact h.cell 0
  | 1,hj=>simp at hj;subst hj;exact h.cell 1
  | j+2,hj=>simp at hj)
theorem zk9 (a b m:Int) (w:World):Calls Tryz.prog 233 #[a,b,m] w fun e w'=>e=.returned (.tuple #[.int .i64 (vQ a b m).1,.bool (vQ a b m).2])∧Below w.heap.size w w':=by
 have C:=Jw a b 16777216 m;unfold vQ;generalize jK a b 16777216 m=p at C ⊢;obtain ⟨n,is⟩:=p;obtain ⟨x,hx⟩:=zc ((vL n is [a,b]));have T:=fun (g:Nat) (W:World) (h:At W g 3 #[a,b])=>zkF n is a b g W h;simp only [hx] at T ⊢;have HC:=za C;have HT:=za T;clear C T hx;obtain ⟨y,k⟩:=x;go_enter Tryz.func233,Tryz.ntmps233;exact XaN
theorem zla (a b m:Int) (w:World):Calls Tryz.prog 231 #[a,b,m] w fun e w'=>e=.returned (.tuple #[.int .i64 (jX a b m).1,.bool (jX a b m).2])∧Below w.heap.size w w':=by
 have C:=Jw a 16777216 b m;unfold jX;generalize jK a 16777216 b m=p at C ⊢;obtain ⟨n,is⟩:=p;obtain ⟨x,hx⟩:=zc ((vL n is [a,b]));have T:=fun (g:Nat) (W:World) (h:At W g 3 #[a,b])=>zkF n is a b g W h;simp only [hx] at T ⊢;have HC:=za C;have HT:=za T;clear C T hx;obtain ⟨y,k⟩:=x;go_enter Tryz.func231,Tryz.ntmps231;exact XaN
theorem zlv (n:Int) (w:World):Calls Tryz.prog 234 #[n] w fun e w'=>e=.returned (.tuple #[.int .i64 (fof n).1,.bool (fof n).2])∧Below w.heap.size w w':=by
 have C:=Jw n 16777216 1 0;unfold fof;generalize jK n 16777216 1 0=p at C ⊢;obtain ⟨q,is⟩:=p;obtain ⟨x,hx⟩:=zc ((vL q is []));have T:=fun (W:World)=>ziO q is W;simp only [hx] at T ⊢;have HC:=za C;have HT:=za T;clear C T hx;obtain ⟨y,k⟩:=x;go_enter Tryz.func234,Tryz.ntmps234;go_wp2_with (first | (go_at_call 180;(with_reducible refine (HC.out _).mono ?_);rintro e w1 ⟨rfl,hb1⟩;have hB1:=za hb1;clear hb1)|(go_at_call 239;(with_reducible refine (HT.out _).mono ?_);rintro e w2 ⟨rfl,hb2⟩;have hB2:=za (zi hB1.out hb2);clear hb2))
 go_ret2
 exact ⟨rfl,hB2.out⟩
end Go.Proofs.YtcoiklclbljjeaaGreatDoor.L
