/- Lemmas of the card's proof. -/
import Derived.Test.YtcoiklclbljjeaaGreatDoorM12
import Derived.Test.YtcoiklclbljjeaaGreatDoorM26
set_option linter.unusedVariables false
set_option linter.unusedSimpArgs false
set_option maxRecDepth 100000
set_option maxHeartbeats 16000000
namespace Go.Proofs.YtcoiklclbljjeaaGreatDoor.L
open Go.RowKit
theorem Xau {P:Prop} (h:P:=by
 have hS':(b.setIfInBounds j true).getD z true=false→S w':=fun hz=>h3.2.1 (by
  rw [Array.setIfInBounds_comm _ _ (Ne.symm hji),getD_set_ne true hiz];exact hz)
 refine ⟨hS', ih (b.setIfInBounds j true) a' w' (fun k ok hk hki hun hno=>?_) (ready_mono hr (Ne.symm hji)) h3.1 hS' ?_ ?_⟩
 ·refine hfree k ok hk hki ?_ hno
  by_cases hjk:j=k
  ·subst hjk;exact hjun
  ·rw [getD_set_ne true hjk] at hun;exact hun
 ·rcases hC with h|⟨h1,h2,h4⟩
  ·exact .inl h
  ·refine .inr ⟨h1,h2,?_⟩
   have hjz:j≠z:=fun e=>ZJ h2 (mem_ready.1 hr).1 (e▸hj);rw [getD_set_ne true hjz];exact h4
 ·rw [Array.setIfInBounds_comm _ _ hji]
  exact h3.2.2) : P := h
theorem XbA {P:Prop} (h:P:=by
 rcases hz with hz|hz
 ·rw [h0] at hz;cases hz
 ·exact k1 (by rw [List.any_map] at hz;exact hz)) : P := h
section
section
variable {P:Program} {ops:Array Oper} {S:World→Prop} {Q:Exit→Act→World→Prop}
def ziz (P:Program) (ops:Array Oper) (Q:Exit→Act→World→Prop) (S:World→Prop) (z:Nat):Nat→Array Bool→Act→World→Prop
 | 0,b,a,w=>Region.ready .any ops b=[]∧Q .normal a w
 | f+1,b,a,w=>(Region.ready .any ops b=[]→Q .normal a w) ∧
  ∀i∈Region.ready .any ops b,wpOp P ops Q i (fun a' w'=>((b.setIfInBounds i true).getD z true=false→S w')∧ziz P ops Q S z f (b.setIfInBounds i true) a' w') a w
theorem za5 {z:Nat}:∀(f:Nat) (b:Array Bool) (a:Act) (w:World),ziz P ops Q S z f b a w→wpAny P .any ops Q f b a w
 | 0,_,_,_,h=>h
 | f+1,_,_,_,h=>⟨h.1,fun i hi=>wpOp_mono (fun a' w' h'=>za5 f _ a' w' h'.2) (h.2 i hi)⟩
theorem ZJ {z i:Nat} (h:Region.waitsFor .any ops z i=true) {b:Array Bool} (hi:b.getD i true=false):z∉Region.ready .any ops b:=fun hz=>by
 obtain ⟨_,oz,hoz,hall⟩:=mem_ready.1 hz;obtain ⟨o', ho', e,he,hb,hon⟩:=Region.waitsFor_spec h;have:o'=oz:=Option.some.inj (ho'.symm.trans hoz);subst this;have q:=hall e he hb;rw [hon,getD_both hi] at q;cases q
theorem zcC {C:World→Prop} {z i:Nat} {oi:Oper} {v:Value} (hiz:i≠z) (hi:ops[i]?=some oi) (hsel:∀(j:Nat) (o:Oper) cs b,ops[j]?=some o→o.op≠.select cs b) (hQ:∀c a w,Q (.panic c) (a.put oi.dst v) w→Q (.panic c) a w) (f:Nat) :
  ∀(b:Array Bool) (a:Act) (w:World),
   (∀j oj,ops[j]?=some oj→j≠i→b.getD j true=false→(∀e∈oj.after,Region.binds .any e=true→e.on≠i)→oi.apart ops oj=true) →
   i∈Region.ready .any ops b→YieldsIf P ops C oi v a→(b.getD z true=false→S w)→((∀w,C w)∨((∀w,S w→C w)∧Region.waitsFor .any ops z i=true∧b.getD z true=false)) →
   ziz P ops Q S z f (b.setIfInBounds i true) (a.put oi.dst v) w→ziz P ops Q S z (f+1) b a w:=by
 have key:∀(b:Array Bool) (w:World),(b.getD z true=false→S w)→((∀w,C w)∨((∀w,S w→C w)∧Region.waitsFor .any ops z i=true∧b.getD z true=false))→C w:=fun b w hS hC=>by
  rcases hC with h|⟨h,_,hz⟩
  ·exact h w
  ·exact h w (hS hz)
 induction f with
 | zero =>
  intro b a w _ hr hy hS hC H;refine ⟨fun h=>(by rw [h] at hr;cases hr),fun j hj=>?_⟩
  by_cases hji:j=i
  ·subst hji;exact hy.wpOp hi (key b w hS hC) ⟨fun hz=>hS (by rwa [getD_set_ne true hiz] at hz),H⟩
  ·have k:=ready_mono hj hji
   rw [H.1] at k;cases k
 | succ f ih =>
  intro b a w hfree hr hy hS hC H;refine ⟨fun h=>(by rw [h] at hr;cases hr),fun j hj=>?_⟩
  by_cases hji:j=i
  ·subst hji;exact hy.wpOp hi (key b w hS hC) ⟨fun hz=>hS (by rwa [getD_set_ne true hiz] at hz),H⟩
  ·obtain ⟨hjun,oj,hoj,hall⟩:=mem_ready.1 hj
   have hnot:∀e∈oj.after,Region.binds .any e=true→e.on≠i:=by
    exact XaV
   refine wpOp_mono (fun a' w' h3=>?_) (wpOp_putIf hoj (hfree j oj hoj hji hjun hnot) (fun cs b=>hsel i oi cs b hi) (fun cs b=>hsel j oj cs b hoj) hQ hy (H.2 j (ready_mono hj hji)));exact Xau
def Z8 (ops:Array Oper) (z:Nat):List (Nat×Nat)→Array Bool→Bool
 | [],b=>(Region.ready .any ops b).isEmpty
 | (0,i)::r,b=>(Region.ready .any ops b).contains i&&Region.free .any ops b i&&(ops[i]?.map Z7).getD false&&Region.waitsFor .any ops z i&&!(b.getD z true)&&!(i==z)&&Z8 ops z r (b.setIfInBounds i true)
 | (1,i)::r,b=>(Region.ready .any ops b).contains i&&Region.free .any ops b i&&(ops[i]?.map Z7).getD false&&!(i==z)&&Z8 ops z r (b.setIfInBounds i true)
 | (_+2,i)::r,b=>decide (Region.ready .any ops b=[i])&&((b.setIfInBounds i true).getD z true || r.any fun x=>x.2==z)&&Z8 ops z r (b.setIfInBounds i true)
def yV (P:Program) (ops:Array Oper) (S:World→Prop) (Q:Exit→Act→World→Prop) (z:Nat):List (Nat×Nat×Oper)→Act→World→Prop
 | [],a,w=>Q .normal a w
 | (0,i,o)::r,a,w=>wpQuiet P ops S (fun a'=>yV P ops S Q z r a' w) [o] a
 | (1,i,o)::r,a,w=>wpQuiet P ops (fun _=>True) (fun a'=>yV P ops S Q z r a' w) [o] a
 | (_+2,i,o)::r,a,w=>Region.wanted o (yielded ops a.tmps)=true∧o.wp P a w (fun a' w'=>((r.any fun x=>x.2.1==z)=true→S w')∧yV P ops S Q z r a' w') Q
theorem yH {z:Nat} {a:Act} {w:World} (h:Q .normal a w):yV P ops S Q z [] a w:=h
theorem qs {z i:Nat} {o:Oper} {r:List (Nat×Nat×Oper)} {a:Act} {w:World} (h:wpQuiet P ops S (fun a'=>yV P ops S Q z r a' w) [o] a):yV P ops S Q z ((0,i,o)::r) a w:=h
theorem zo {z i:Nat} {o:Oper} {r:List (Nat×Nat×Oper)} {a:Act} {w:World} (h:wpQuiet P ops (fun _=>True) (fun a'=>yV P ops S Q z r a' w) [o] a):yV P ops S Q z ((1,i,o)::r) a w:=h
theorem jR {z i:Nat} {o:Oper} {r:List (Nat×Nat×Oper)} {a:Act} {w:World} (hg:o.guard=none) (h:∀K:Act→World→Prop,(∀a' w', S w'→yV P ops S Q z r a' w'→K a' w')→o.wp P a w K Q):yV P ops S Q z ((2,i,o)::r) a w:=by
 exact ⟨by simp [Region.wanted,hg],h _ fun a' w' h1 h2=>⟨fun _=>h1,h2⟩⟩
theorem ZY {z i:Nat} {o:Oper} {r:List (Nat×Nat×Oper)} {a:Act} {w:World} (hg:o.guard=none) (hz:(r.any fun x=>x.2.1==z)=false) (h:∀K:Act→World→Prop,(∀a' w', yV P ops S Q z r a' w'→K a' w')→o.wp P a w K Q):yV P ops S Q z ((2,i,o)::r) a w:=by
 exact ⟨by simp [Region.wanted,hg],h _ fun a' w' h2=>⟨fun h=>(by rw [hz] at h;cases h),h2⟩⟩
theorem Yc {C:World→Prop} {o:Oper} {a:Act} {N:Act→Prop} (hk:Z7 o=true) (h:wpQuiet P ops C N [o] a):∃v,YieldsIf P ops C o v a∧N (a.put o.dst v):=by
 have h':if Region.wanted o (yielded ops a.tmps)=true then o.quiet P a C N else N (a.put o.dst undef):=h
 split at h'
 ·rename_i hw
  obtain ⟨v,h1,h2⟩:=h';refine ⟨v,.inl ⟨hw,fun W hW=>?_⟩,h2⟩;have q:=h1 W hW;unfold Oper.quietAt at q;cases hrun:(execOp a.eval o).run P W with
  | halt x w1=>rw [hrun] at q;cases q
  | ok n w1 =>
   obtain ⟨u,rfl⟩:=QS hk hrun;rw [hrun] at q;obtain ⟨rfl,rfl⟩:=q;rfl
 ·rename_i hw
  exact ⟨undef,.inr ⟨by simpa using hw,rfl⟩,h'⟩
theorem vU {z:Nat} (hsel:Region.noSelect ops=true) (hQ:∀c a d v w,Q (.panic c) (a.put d v) w→Q (.panic c) a w):∀(r:List (Nat×Nat×Oper)) (b:Array Bool) (a:Act) (w:World),
  (∀x,x∈r→ops[x.2.1]?=some x.2.2)→Z8 ops z (r.map fun x=>(x.1,x.2.1)) b=true→(b.getD z true=false→S w)→yV P ops S Q z r a w→ziz P ops Q S z r.length b a w
 | [],b,a,w,_,hB,_,h=>⟨by simpa [Z8] using hB,h⟩
 | (k,i,o)::r,b,a,w,hl,hB,hS,h=>by
  have ho:ops[i]?=some o:=hl _ List.mem_cons_self;have hl':∀x,x∈r→ops[x.2.1]?=some x.2.2:=fun x hx=>hl x (List.mem_cons_of_mem _ hx)
  match k,hB,h with
  | 0,hB,h =>
   simp only [List.map_cons,Z8,Bool.and_eq_true,Bool.not_eq_true', beq_eq_false_iff_ne] at hB;obtain ⟨⟨⟨⟨⟨⟨hr,hf⟩,hk⟩,hw⟩,hz⟩,hiz⟩,hB'⟩:=hB;rw [ho] at hk;obtain ⟨v,hy,h2⟩:=Yc (by simpa using hk) h;exact zcC hiz ho (Region.noSelect_spec hsel) (fun c a w=>hQ c a _ _ w) _ b a w (Region.free_spec ho hf) (by simpa using hr) hy hS (.inr ⟨fun _ h=>h,hw,hz⟩) (vU hsel hQ r _ _ w hl' hB' (fun h0=>hS hz) h2)
  | 1,hB,h =>
   simp only [List.map_cons,Z8,Bool.and_eq_true,Bool.not_eq_true', beq_eq_false_iff_ne] at hB;obtain ⟨⟨⟨⟨hr,hf⟩,hk⟩,hiz⟩,hB'⟩:=hB;rw [ho] at hk;obtain ⟨v,hy,h2⟩:=Yc (by simpa using hk) h;exact zcC hiz ho (Region.noSelect_spec hsel) (fun c a w=>hQ c a _ _ w) _ b a w (Region.free_spec ho hf) (by simpa using hr) hy hS (.inl fun _=>trivial) (vU hsel hQ r _ _ w hl' hB' (fun h0=>hS (by rwa [getD_set_ne true hiz] at h0)) h2)
  | k+2,hB,h =>
   simp only [List.map_cons,Z8,Bool.and_eq_true,decide_eq_true_eq,Bool.or_eq_true] at hB;obtain ⟨⟨hr,hz⟩,hB'⟩:=hB;refine ⟨fun h0=>(by rw [hr] at h0;cases h0),fun j hj=>?_⟩;rw [hr] at hj;obtain rfl:j=i:=by simpa using hj
   have key:∀a' w', ((r.any fun x=>x.2.1==z)=true→S w')→yV P ops S Q z r a' w'→((b.setIfInBounds j true).getD z true=false→S w')∧ziz P ops Q S z r.length (b.setIfInBounds j true) a' w':=by
    intro a' w' k1 k2
    have hS':(b.setIfInBounds j true).getD z true=false→S w':=fun h0=>by
     exact XbA
    exact ⟨hS', vU hsel hQ r _ a' w' hl' hB' hS' k2⟩
   unfold wpOp;simp only [ho];rw [if_pos h.1];exact .inl (Oper.wp_mono' (fun a' w' ⟨k1,k2⟩=>key a' w' k1 k2) h.2)
def zu (l:List Oper) (r:List (Nat×Nat×Oper)):Prop:=∀x,x∈r→l[x.2.1]?=some x.2.2
theorem zu.nil {l:List Oper}:zu l []:=fun _ h=>nomatch h
theorem zu.cons {l:List Oper} {k i:Nat} {o:Oper} {r:List (Nat×Nat×Oper)} (h:l[i]?=some o) (t:zu l r):zu l ((k,i,o)::r):=fun x hx=>by
 rcases List.mem_cons.1 hx with rfl|hx
 ·exact h
 ·exact t x hx
def Vu (ops:Array Oper) (z:Nat) (r:List (Nat×Nat)):Bool:=Region.noSelect ops&&Z8 ops z r (Array.replicate ops.size false)&&decide (r.length=ops.size)
theorem zjU {a:Act} {w:World} {l:List Oper} (G:List Nat) (z:Nat) {r:List (Nat×Nat×Oper)} (hl:zu l r) (hB:Vu l.toArray z (r.map fun x=>(x.1,x.2.1))=true) (hQ:∀c a d v w,Q (.panic c) (a.put d v) w→Q (.panic c) a w)
  (h:yV P l.toArray (fun w'=>∃x:But w G,w'=x.w) Q z r a w.drew):wpAny P .any l.toArray Q l.toArray.size (Array.replicate l.toArray.size false) a w.drew:=by
 simp only [Vu,Bool.and_eq_true,decide_eq_true_eq,List.length_map] at hB;have:=vU (P:=P) (Q:=Q) (S:=fun w'=>∃x:But w G,w'=x.w) hB.1.1 hQ r _ a w.drew (fun x hx=>by rw [List.getElem?_toArray];exact hl x hx) hB.1.2 (fun _=>⟨⟨w.drew,(zC.refl w G).drew⟩,rfl⟩) h;rw [hB.2] at this;exact za5 _ _ _ _ this
theorem jm {id:Nat} {a:Act} {w:World} {l:List Oper} (G:List Nat) (z:Nat) {r:List (Nat×Nat×Oper)} (hl:zu l r) (hm:P.follows .mixedOrders=true) (hB:Vu l.toArray z (r.map fun x=>(x.1,x.2.1))=true) (hQ:∀c a d v w,Q (.panic c) (a.put d v) w→Q (.panic c) a w)
  (h:yV P l.toArray (fun w'=>∃x:But w G,w'=x.w) Q z r a w.drew):(Code.region id l.toArray true).wp P Q a w:=wp_region_any hm (zjU G z hl hB hQ h)
end
end
section
open R R.Real
theorem zdx {a b c:Int}:(0<b→c*b≤a*16777216→e c*e b≤e a)∧(b<0→a*16777216≤c*b→e a≤e c*e b):=by
 constructor
 ·intro hb h
  exact Xar
 ·intro hb h
  exact Xar
theorem zcr {a b c:Int}:(0<b→a*16777216≤c*b→e a≤e c*e b)∧(b<0→c*b≤a*16777216→e c*e b≤e a):=by
 constructor
 ·intro hb h
  exact Xar
 ·intro hb h
  exact Xar
theorem zlB {a b:Int} (h:e a=e b):a=b:=Int.le_antisymm (zio (R.Real.le_of_eq h)) (zio (R.Real.le_of_eq h.symm))
theorem zlM {a:Int} (h:a≠0):e a≠0:=fun k=>h (zlB (k.trans vJ.symm))
theorem zb6 {x y z:R.Real} (hz:z≤0) (hn:z≠0) (h:x*z≤y*z):y≤x:=by
 have h1:=R.Real.neg_le h;have:y*-z≤x*-z:=by rw [mul_neg,mul_neg];exact h1
 exact zak (Yd hz) (fun k=>hn (by rw [←neg_neg z,k,zbV])) this
theorem Enc.div {a b:Num} {x y:R.Real} (ha:Enc a x) (hb:Enc b y):Enc (a.div b) (x / y):=fun h=>by
 unfold Num.div at h ⊢
 split at h
 ·cases h
 ·rename_i hz
  rw [if_neg hz];obtain ⟨h1,h2,h3,h4,h5⟩:=QE h;obtain ⟨a1,a2⟩:=ha h1;obtain ⟨b1,b2⟩:=hb h2;simp only [zbj,List.all_cons,List.all_nil,Bool.and_true,Bool.and_eq_true,pOk] at h3;have ml:=zlq (pLo jX (a.l,b.l)) (pLo jX (a.l,b.h)) (pLo jX (a.h,b.l)) (pLo jX (a.h,b.h));have mh:=zls (pHi jX (a.l,b.l)) (pHi jX (a.l,b.h)) (pHi jX (a.h,b.l)) (pHi jX (a.h,b.h));have el:(ZN jX a b (zbj a b)).l=ZU [pLo jX (a.l,b.l),pLo jX (a.l,b.h),pLo jX (a.h,b.l),pLo jX (a.h,b.h)]:=h4
  have eh:(ZN jX a b (zbj a b)).h=ZV [pHi jX (a.l,b.l),pHi jX (a.l,b.h),pHi jX (a.h,b.l),pHi jX (a.h,b.h)]:=h5;rw [el,eh];generalize ZU [pLo jX (a.l,b.l),pLo jX (a.l,b.h),pLo jX (a.h,b.l),pLo jX (a.h,b.h)]=m at ml ⊢;generalize ZV [pHi jX (a.l,b.l),pHi jX (a.l,b.h),pHi jX (a.h,b.l),pHi jX (a.h,b.h)]=M at mh ⊢
  have bb:b.l≤b.h:=by
   unfold Num.fine L.Js at h2;simp only [Bool.and_eq_true,decide_eq_true_eq] at h2;omega
  simp only [Bool.and_eq_true,decide_eq_true_eq] at hz
  have lo:∀ {c v k:Int},v≠0→(jX c v 1).2=true→m≤(jX c v 1).1→(0<v→e m*e v≤e c)∧(v<0→e c≤e m*e v):=fun {c v k} hv hs hm=>by
   constructor
   ·intro h0
    have h0':0≤e v:=by rw [←vJ];exact vS (by omega)
    exact R.Real.le_trans (yR h0' (vS hm)) (zdx.1 h0 ((zen.1 hs).1 h0))
   ·intro h0
    have h0':e v≤0:=by rw [←vJ];exact vS (by omega)
    refine R.Real.le_trans (zdx.2 h0 ((zen.1 hs).2 h0)) ?_;rw [R.Real.mul_comm,R.Real.mul_comm (e m)];exact vf h0' (vS hm)
  have hi:∀ {c v k:Int},v≠0→(jX c v 2).2=true→(jX c v 2).1≤M→(0<v→e c≤e M*e v)∧(v<0→e M*e v≤e c):=fun {c v k} hv hs hm=>by
   constructor
   ·intro h0
    have h0':0≤e v:=by rw [←vJ];exact vS (by omega)
    exact R.Real.le_trans (zcr.1 h0 ((zen.2 hs).1 h0)) (yR h0' (vS hm))
   ·intro h0
    have h0':e v≤0:=by rw [←vJ];exact vS (by omega)
    refine R.Real.le_trans ?_ (zcr.2 h0 ((zen.2 hs).2 h0));rw [R.Real.mul_comm,R.Real.mul_comm _ (e v)];exact vf h0' (vS hm)
  by_cases hp:0<b.l
  ·have y0:0≤y:=R.Real.le_trans (by rw [←vJ];exact vS (by omega)) b1
   have yn:y≠0:=fun k=>by
    rw [k,←vJ] at b1;have:=zio b1;omega
   have l1:=(lo (k:=0) (by omega) h3.1.1 ml.1).1 hp;have l2:=(lo (k:=0) (by omega) h3.2.1.1 ml.2.1).1 (by omega);have u1:=(hi (k:=0) (by omega) h3.2.2.1.2 mh.2.2.1).1 hp;have u2:=(hi (k:=0) (by omega) h3.2.2.2.2 mh.2.2.2).1 (by omega);constructor
   ·refine zak y0 yn ?_
    rw [yq _ yn];exact R.Real.le_trans (JM b1 b2 l1 l2) a1
   ·refine zak y0 yn ?_
    rw [yq _ yn];exact R.Real.le_trans a2 (VA b1 b2 u1 u2)
  ·have y0:y≤0:=R.Real.le_trans b2 (by rw [←vJ];exact vS (by omega))
   have yn:y≠0:=fun k=>by
    rw [k,←vJ] at b2;have:=zio b2;omega
   have l1:=(lo (k:=0) (by omega) h3.2.2.1.1 ml.2.2.1).2 (by omega);have l2:=(lo (k:=0) (by omega) h3.2.2.2.1 ml.2.2.2).2 (by omega);have u1:=(hi (k:=0) (by omega) h3.1.2 mh.1).2 (by omega);have u2:=(hi (k:=0) (by omega) h3.2.1.2 mh.2.1).2 (by omega);constructor
   ·refine zb6 y0 yn ?_
    rw [yq _ yn];exact R.Real.le_trans a2 (VA b1 b2 l1 l2)
   ·refine zb6 y0 yn ?_
    rw [yq _ yn];exact R.Real.le_trans (JM b1 b2 u1 u2) a1
theorem Enc.root {a:Num} {x:R.Real} (ha:Enc a x):Enc a.root (zbb x):=fun h=>by
 obtain ⟨h1,h2,h3,h4,h5⟩:=QE h;obtain ⟨a1,a2⟩:=ha h1;simp only [List.all_cons,List.all_nil,Bool.and_true,Bool.and_eq_true,pOk,JH] at h3;have ml:=(zk1 (pLo JH (a.l,a.l)) (pLo JH (a.h,a.h))).1;have mh:=(zk3 (pHi JH (a.l,a.l)) (pHi JH (a.h,a.h))).2;have el:a.root.l=ZU [pLo JH (a.l,a.l),pLo JH (a.h,a.h)]:=h4;have eh:a.root.h=ZV [pHi JH (a.l,a.l),pHi JH (a.h,a.h)]:=h5
 have rl:=zha h3.1.1;have rh:=zha h3.2.2;have x0:0≤x:=R.Real.le_trans (by rw [←vJ];exact vS rl.1) a1;have s0:=JC x;have ss:=Vi x0;rw [el,eh];constructor
 ·refine R.Real.le_trans (vS ml) (Vj s0 ?_)
  rw [ss];refine R.Real.le_trans ?_ a1;show e (vG a.l 1).1*e (vG a.l 1).1≤e a.l;have:=rl.2.2.1 rfl;generalize (vG a.l 1).1=k at *;exact J3 this
 ·refine R.Real.le_trans (Vj ?_ ?_) (vS mh)
  ·rw [←vJ];exact vS rh.2.1
  ·rw [ss]
   refine R.Real.le_trans a2 ?_;show e a.h≤e (vG a.h 2).1*e (vG a.h 2).1;exact J2 (rh.2.2.2 rfl)
theorem vR (n:Int):Enc (jf n) (e n):=fun h=>by
 unfold jf at h ⊢
 split at h
 ·rename_i h1
  rw [if_pos h1];exact ⟨R.Real.le_refl _,R.Real.le_refl _⟩
 ·cases h
theorem Enc.neg {a:Num} {x:R.Real} (ha:Enc a x):Enc a.neg (-x):=by
 have:=(vR 0).sub ha;rw [vJ,R.Real.sub_def,R.Real.zero_add] at this;exact this
theorem zbr:Enc (Num.of 0) 0:=by
 have h:Num.of 0=jf 0:=by decide
 rw [h,←vJ];exact vR 0
theorem zkq:Enc (Num.of 1) 1:=by
 have h:Num.of 1=jf 16777216:=by decide
 rw [h]
 have:e 16777216=1:=by
  show q _=q 1
  congr 1
  rw [show ((16777216:Int):Rat)=16777216 from rfl];grind
 rw [←this];exact vR _
def qN (n:Nat) (xs:List Num) (f:Nat→R.Real):Prop:=xs.length=n∧∀i,i<n→Enc (xs.getD i qe) (f i)
theorem qN.congr {n:Nat} {xs:List Num} {f g:Nat→R.Real} (h:qN n xs f) (k:∀i,i<n→f i=g i):qN n xs g:=⟨h.1,fun i hi=>k i hi▸h.2 i hi⟩
theorem JS {α β:Type} (g:α→β) (l:List α) (i:Nat) (a:α) (b:β) (h:i<l.length):(l.map g).getD i b=g (l.getD i a):=by
 rw [List.getD_eq_getElem?_getD,List.getD_eq_getElem?_getD,List.getElem?_map,List.getElem?_eq_getElem h];rfl
theorem qN.map {n:Nat} {xs:List Num} {f:Nat→R.Real} (g:Num→Num) (F:R.Real→R.Real) (h:qN n xs f) (hg:∀a x,Enc a x→Enc (g a) (F x)):qN n (xs.map g) (fun i=>F (f i)) :=
 ⟨by rw [List.length_map,h.1],fun i hi=>by rw [JS g xs i qe qe (by rw [h.1];exact hi)];exact hg _ _ (h.2 i hi)⟩
theorem zce {xs ys:List Num} {i:Nat} (g:Num→Num→Num) (h1:i<xs.length) (h2:i<ys.length):((xs.zip ys).map fun p=>g p.1 p.2).getD i qe=g (xs.getD i qe) (ys.getD i qe):=by
 have hz:i<(xs.zip ys).length:=by rw [List.length_zip];omega
 rw [JS (fun p:Num×Num=>g p.1 p.2) _ i (qe,qe) qe hz];rw [List.getD_eq_getElem?_getD,List.getElem?_eq_getElem hz,List.getD_eq_getElem?_getD,List.getElem?_eq_getElem h1,List.getD_eq_getElem?_getD,List.getElem?_eq_getElem h2,List.getElem_zip];rfl
theorem qN.zip {n:Nat} {xs ys:List Num} {f k:Nat→R.Real} (g:Num→Num→Num) (F:R.Real→R.Real→R.Real) (h:qN n xs f) (h':qN n ys k) (hg:∀a b x y,Enc a x→Enc b y→Enc (g a b) (F x y)) :
  qN n ((xs.zip ys).map fun p=>g p.1 p.2) (fun i=>F (f i) (k i)) :=
 ⟨by rw [List.length_map,List.length_zip,h.1,h'.1,Nat.min_self],fun i hi=>by
  rw [zce g (by rw [h.1];exact hi) (by rw [h'.1];exact hi)];exact hg _ _ _ _ (h.2 i hi) (h'.2 i hi)⟩
theorem qN.adds {n:Nat} {xs ys:List Num} {f k:Nat→R.Real} (h:qN n xs f) (h':qN n ys k):qN n (Zg xs ys) (fun i=>f i+k i):=h.zip Num.add (·+·) h' fun _ _ _ _ a b=>a.add b
theorem qN.subs {n:Nat} {xs ys:List Num} {f k:Nat→R.Real} (h:qN n xs f) (h':qN n ys k):qN n (vB xs ys) (fun i=>f i-k i):=h.zip Num.sub (· - ·) h' fun _ _ _ _ a b=>a.sub b
theorem qN.scale {n:Nat} {xs:List Num} {f:Nat→R.Real} {b:Num} {y:R.Real} (h:qN n xs f) (hb:Enc b y):qN n (qr xs b) (fun i=>f i*y):=h.map (fun x=>x.mul b) (fun x=>x*y) fun _ _ a=>a.mul hb
theorem zil {xs:List Num}:∀ {n:Nat} {f:Nat→R.Real} {a:Num} {x:R.Real},Enc a x→qN n xs f→Enc (xs.foldl Num.add a) (x+Sig n f):=by
 induction xs with
 | nil=>intro n f a x ha h;have h1:0=n:=h.1;subst h1;show Enc a (x+0);rw [R.Real.add_zero];exact ha
 | cons y ys ih =>
  intro n f a x ha h;have h1:ys.length+1=n:=h.1;subst h1;rw [zdE,←R.Real.add_assoc];exact ih (ha.add (h.2 0 (by omega))) ⟨rfl,fun i hi=>h.2 (i+1) (by omega)⟩
theorem qN.sum {n:Nat} {xs:List Num} {f:Nat→R.Real} (h:qN n xs f):Enc (zbK xs) (Sig n f):=by
 have:=zil zbr h;rw [R.Real.zero_add] at this;exact this
theorem qN.dot {n:Nat} {xs ys:List Num} {f k:Nat→R.Real} (h:qN n xs f) (h':qN n ys k):Enc (Zf xs ys) (R.Real.dot n f k):=(h.zip Num.mul (· * ·) h' fun _ _ _ _ a b=>a.mul b).sum
theorem zcq (l:List Int):qN l.length (l.map jf) (fun i=>e (l.getD i 0)) :=
 ⟨List.length_map _,fun i hi=>by rw [JS jf l i 0 qe hi];exact vR _⟩
end
theorem Xbc {P:Prop} (h:P:=by
 cases e with
 | returned u=>exact ⟨keep a hy u,by rw [←Act.put_comm a v u h2];exact he⟩
 | panicked c=>exact hQ _ _ _ he
 | outgrown=>exact he) : P := h
section
section
variable {P:Program} {ops:Array Oper} {S:World→Prop} {Q:Exit→Act→World→Prop} {F:Fence} {n:Nat}
theorem zbQ {o:Oper} (h:qY o=true) (r:Option Nat) (ρ:Operand→Value):o.semAt r ρ=execOp ρ o:=by
 cases r with
 | none=>exact Oper.semAt_none _ _
 | some l=>exact Oper.semAt_some l _ _ (Vy h)
theorem YieldsIf.wpOpIn {C:World→Prop} {i:Nat} {o:Oper} {v:Value} {a:Act} (hF:∀f,F.fn f) (hd:qY o=true) (hi:ops[i]?=some o) (hy:YieldsIf P ops C o v a) {K:Act→World→Prop} {w:World} (hC:C w) (h:K (a.put o.dst v) w):wpOpIn F n P ops Q i K a w:=by
 unfold Go.wpOpIn;simp only [hi];rcases hy with ⟨hw,hv⟩|⟨hw,rfl⟩
 ·simp only [hw,if_true]
  refine ⟨fun f _=>hF f,?_⟩;rw [zbQ hd,hv w hC];exact h
 ·simp only [hw,Bool.false_eq_true,if_false];exact ⟨fun f _=>hF f,h⟩
theorem zdH {C:World→Prop} {j:Nat} {oi oj:Oper} {v:Value} (hF:∀f,F.fn f) (hd:qY oj=true) (hj:ops[j]?=some oj) (hap:oi.apart ops oj=true)
  (hsi:∀cs b,oi.op≠.select cs b) (hsj:∀cs b,oj.op≠.select cs b)
  (hQ:∀c a w,Q (.panic c) (a.put oi.dst v) w→Q (.panic c) a w) {K:Act→World→Prop} {a:Act} {w:World}
  (hy:YieldsIf P ops C oi v a) (h:wpOpIn F n P ops Q j K (a.put oi.dst v) w) :
  wpOpIn F n P ops Q j (fun a' w'=>YieldsIf P ops C oi v a'∧K (a'.put oi.dst v) w') a w:=by
 obtain ⟨h1,h2,h3⟩:=Oper.apart_spec hap
 have keep:∀(a:Act),YieldsIf P ops C oi v a→∀u,YieldsIf P ops C oi v (a.put oj.dst u):=fun a hy u =>
  hy.of_same (execOp_put oi hsi a oj.dst u h3) (wanted_put oi a oj.dst u h3)
 have keepD:∀d,YieldsIf P ops C oi v { a with defers:=d::a.defers }:=fun d=>hy.of_same rfl rfl;unfold wpOpIn at *;simp only [hj] at *;rw [wanted_put oj a oi.dst v h1] at h
 split
 ·rename_i hw
  simp only [hw,if_true] at h;unfold Oper.wpIn at *;refine ⟨fun f _=>hF f,?_⟩;have h:=h.2;rw [zbQ hd,execOp_put oj hsj a oi.dst v h1] at h;rw [zbQ hd];generalize (execOp a.eval oj).run P w=r at *;cases r with
  | ok x w' =>
   cases x<;>simp only [Oper.uponIn] at h ⊢
   case value u=>exact ⟨keep a hy u,by rw [←Act.put_comm a v u h2];exact h⟩
   case skip=>exact ⟨keep a hy _,by rw [←Act.put_comm a v undef h2];exact h⟩
   case defer d =>
    refine ⟨keep _ (keepD d) _,?_⟩;rw [←Act.put_comm _ v undef h2,←Act.put_defers];exact h
   case enter f args =>
    refine ⟨h.1,CallsIn.mono h.2 fun e w'' he=>?_⟩;exact Xbc
   case row row args=>exact ⟨h.1,RowsIn.mono h.2 fun u w'' he=>⟨keep a hy u,by rw [←Act.put_comm a v u h2];exact he⟩⟩
   case round l f tmps assign body =>
    refine ⟨h.1,RoundIn.mono h.2 fun e w'' he=>?_⟩;exact Xbc
  | halt x w' =>
   cases x<;>simp only [Oper.uponIn] at h ⊢
   case panic u=>exact hQ _ _ _ h
 ·rename_i hw
  simp only [hw] at h;exact ⟨fun f _=>hF f,keep a hy _,by rw [←Act.put_comm a v undef h2];exact h.2⟩
def zaA (F:Fence) (n:Nat) (P:Program) (ops:Array Oper) (Q:Exit→Act→World→Prop) (S:World→Prop) (z:Nat):Nat→Array Bool→Act→World→Prop
 | 0,b,a,w=>Region.ready .any ops b=[]∧Q .normal a w
 | f+1,b,a,w=>(Region.ready .any ops b=[]→Q .normal a w) ∧
  ∀i∈Region.ready .any ops b,wpOpIn F n P ops Q i (fun a' w'=>((b.setIfInBounds i true).getD z true=false→S w')∧zaA F n P ops Q S z f (b.setIfInBounds i true) a' w') a w
theorem YL {z:Nat}:∀(f:Nat) (b:Array Bool) (a:Act) (w:World),zaA F n P ops Q S z f b a w→wpAnyIn F n P .any ops Q f b a w
 | 0,_,_,_,h=>h
 | f+1,_,_,_,h=>⟨h.1,fun i hi=>wpOpIn_mono (fun a' w' h'=>YL f _ a' w' h'.2) (h.2 i hi)⟩
theorem VS {C:World→Prop} {z i:Nat} {oi:Oper} {v:Value} (hF:∀f,F.fn f) (hdd:ops.all qY=true) (hiz:i≠z) (hi:ops[i]?=some oi) (hsel:∀(j:Nat) (o:Oper) cs b,ops[j]?=some o→o.op≠.select cs b) (hQ:∀c a w,Q (.panic c) (a.put oi.dst v) w→Q (.panic c) a w) (f:Nat) :
  ∀(b:Array Bool) (a:Act) (w:World),
   (∀j oj,ops[j]?=some oj→j≠i→b.getD j true=false→(∀e∈oj.after,Region.binds .any e=true→e.on≠i)→oi.apart ops oj=true) →
   i∈Region.ready .any ops b→YieldsIf P ops C oi v a→(b.getD z true=false→S w)→((∀w,C w)∨((∀w,S w→C w)∧Region.waitsFor .any ops z i=true∧b.getD z true=false)) →
   zaA F n P ops Q S z f (b.setIfInBounds i true) (a.put oi.dst v) w→zaA F n P ops Q S z (f+1) b a w:=by
 have nd:∀(j:Nat) (o:Oper),ops[j]?=some o→qY o=true:=fun j o ho=>by
  obtain ⟨hlt,e⟩:=Array.getElem?_eq_some_iff.1 ho;exact e▸(Array.all_eq_true.1 hdd) j hlt
 have key:∀(b:Array Bool) (w:World),(b.getD z true=false→S w)→((∀w,C w)∨((∀w,S w→C w)∧Region.waitsFor .any ops z i=true∧b.getD z true=false))→C w:=fun b w hS hC=>by
  rcases hC with h|⟨h,_,hz⟩
  ·exact h w
  ·exact h w (hS hz)
 induction f with
 | zero =>
  intro b a w _ hr hy hS hC H;refine ⟨fun h=>(by rw [h] at hr;cases hr),fun j hj=>?_⟩
  by_cases hji:j=i
  ·subst hji;exact YieldsIf.wpOpIn hF (nd _ _ hi) hi hy (key b w hS hC) ⟨fun hz=>hS (by rwa [getD_set_ne true hiz] at hz),H⟩
  ·have k:=ready_mono hj hji
   rw [H.1] at k;cases k
 | succ f ih =>
  intro b a w hfree hr hy hS hC H;refine ⟨fun h=>(by rw [h] at hr;cases hr),fun j hj=>?_⟩
  by_cases hji:j=i
  ·subst hji;exact YieldsIf.wpOpIn hF (nd _ _ hi) hi hy (key b w hS hC) ⟨fun hz=>hS (by rwa [getD_set_ne true hiz] at hz),H⟩
  ·obtain ⟨hjun,oj,hoj,hall⟩:=mem_ready.1 hj
   have hnot:∀e∈oj.after,Region.binds .any e=true→e.on≠i:=by
    exact XaV
   refine wpOpIn_mono (fun a' w' h3=>?_) (zdH hF (nd _ _ hoj) hoj (hfree j oj hoj hji hjun hnot) (fun cs b=>hsel i oi cs b hi) (fun cs b=>hsel j oj cs b hoj) hQ hy (H.2 j (ready_mono hj hji)));exact Xau
def jI (F:Fence) (n:Nat) (P:Program) (ops:Array Oper) (S:World→Prop) (Q:Exit→Act→World→Prop) (z:Nat):List (Nat×Nat×Oper)→Act→World→Prop
 | [],a,w=>Q .normal a w
 | (0,i,o)::r,a,w=>wpQuiet P ops S (fun a'=>jI F n P ops S Q z r a' w) [o] a
 | (1,i,o)::r,a,w=>wpQuiet P ops (fun _=>True) (fun a'=>jI F n P ops S Q z r a' w) [o] a
 | (_+2,i,o)::r,a,w=>Region.wanted o (yielded ops a.tmps)=true∧o.wpIn F n P a w (fun a' w'=>((r.any fun x=>x.2.1==z)=true→S w')∧jI F n P ops S Q z r a' w') Q
theorem zdG {z:Nat} {a:Act} {w:World} (h:Q .normal a w):jI F n P ops S Q z [] a w:=h
theorem Qf {z i:Nat} {o:Oper} {r:List (Nat×Nat×Oper)} {a:Act} {w:World} (h:wpQuiet P ops S (fun a'=>jI F n P ops S Q z r a' w) [o] a):jI F n P ops S Q z ((0,i,o)::r) a w:=h
theorem Qg {z i:Nat} {o:Oper} {r:List (Nat×Nat×Oper)} {a:Act} {w:World} (h:wpQuiet P ops (fun _=>True) (fun a'=>jI F n P ops S Q z r a' w) [o] a):jI F n P ops S Q z ((1,i,o)::r) a w:=h
theorem zcJ {z i:Nat} {o:Oper} {r:List (Nat×Nat×Oper)} {a:Act} {w:World} (hF:zbk F) (hd:qY o=true) (hg:o.guard=none) (h:∀K:Act→World→Prop,(∀a' w', S w'→jI F n P ops S Q z r a' w'→K a' w')→o.wp P a w K Q):jI F n P ops S Q z ((2,i,o)::r) a w :=
 ⟨by simp [Region.wanted,hg],hF.op hd (h _ fun a' w' h1 h2=>⟨fun _=>h1,h2⟩)⟩
theorem zcK {z i:Nat} {o:Oper} {r:List (Nat×Nat×Oper)} {a:Act} {w:World} (hg:o.guard=none) (hz:(r.any fun x=>x.2.1==z)=false) (h:∀K:Act→World→Prop,(∀a' w', jI F n P ops S Q z r a' w'→K a' w')→o.wpIn F n P a w K Q):jI F n P ops S Q z ((2,i,o)::r) a w :=
 ⟨by simp [Region.wanted,hg],h _ fun a' w' h2=>⟨fun h=>(by rw [hz] at h;cases h),h2⟩⟩
theorem vj {z:Nat} (hF:∀f,F.fn f) (hdd:ops.all qY=true) (hsel:Region.noSelect ops=true) (hQ:∀c a d v w,Q (.panic c) (a.put d v) w→Q (.panic c) a w):∀(r:List (Nat×Nat×Oper)) (b:Array Bool) (a:Act) (w:World),
  (∀x,x∈r→ops[x.2.1]?=some x.2.2)→Z8 ops z (r.map fun x=>(x.1,x.2.1)) b=true→(b.getD z true=false→S w)→jI F n P ops S Q z r a w→zaA F n P ops Q S z r.length b a w
 | [],b,a,w,_,hB,_,h=>⟨by simpa [Z8] using hB,h⟩
 | (k,i,o)::r,b,a,w,hl,hB,hS,h=>by
  have ho:ops[i]?=some o:=hl _ List.mem_cons_self;have hl':∀x,x∈r→ops[x.2.1]?=some x.2.2:=fun x hx=>hl x (List.mem_cons_of_mem _ hx)
  match k,hB,h with
  | 0,hB,h =>
   simp only [List.map_cons,Z8,Bool.and_eq_true,Bool.not_eq_true', beq_eq_false_iff_ne] at hB;obtain ⟨⟨⟨⟨⟨⟨hr,hf⟩,hk⟩,hw⟩,hz⟩,hiz⟩,hB'⟩:=hB;rw [ho] at hk;obtain ⟨v,hy,h2⟩:=Yc (by simpa using hk) h;exact VS hF hdd hiz ho (Region.noSelect_spec hsel) (fun c a w=>hQ c a _ _ w) _ b a w (Region.free_spec ho hf) (by simpa using hr) hy hS (.inr ⟨fun _ h=>h,hw,hz⟩) (vj hF hdd hsel hQ r _ _ w hl' hB' (fun h0=>hS hz) h2)
  | 1,hB,h =>
   simp only [List.map_cons,Z8,Bool.and_eq_true,Bool.not_eq_true', beq_eq_false_iff_ne] at hB;obtain ⟨⟨⟨⟨hr,hf⟩,hk⟩,hiz⟩,hB'⟩:=hB;rw [ho] at hk;obtain ⟨v,hy,h2⟩:=Yc (by simpa using hk) h;exact VS hF hdd hiz ho (Region.noSelect_spec hsel) (fun c a w=>hQ c a _ _ w) _ b a w (Region.free_spec ho hf) (by simpa using hr) hy hS (.inl fun _=>trivial) (vj hF hdd hsel hQ r _ _ w hl' hB' (fun h0=>hS (by rwa [getD_set_ne true hiz] at h0)) h2)
  | k+2,hB,h =>
   simp only [List.map_cons,Z8,Bool.and_eq_true,decide_eq_true_eq,Bool.or_eq_true] at hB;obtain ⟨⟨hr,hz⟩,hB'⟩:=hB;refine ⟨fun h0=>(by rw [hr] at h0;cases h0),fun j hj=>?_⟩;rw [hr] at hj;obtain rfl:j=i:=by simpa using hj
   have key:∀a' w', ((r.any fun x=>x.2.1==z)=true→S w')→jI F n P ops S Q z r a' w'→((b.setIfInBounds j true).getD z true=false→S w')∧zaA F n P ops Q S z r.length (b.setIfInBounds j true) a' w':=by
    intro a' w' k1 k2
    have hS':(b.setIfInBounds j true).getD z true=false→S w':=fun h0=>by
     exact XbA
    exact ⟨hS', vj hF hdd hsel hQ r _ a' w' hl' hB' hS' k2⟩
   unfold wpOpIn;simp only [ho];rw [if_pos h.1];exact Oper.wpIn_mono (fun a' w' ⟨k1,k2⟩=>key a' w' k1 k2) h.2
end
end
section
section
variable {F:Fence} {n:Nat} {P:Program} {Q:Exit→Act→World→Prop}
theorem ziA {j:Nat} {o:Oper} {a:Act} {w:World} {K:Act→World→Prop}:(vd j o).wpIn F n P a w K Q=o.wpIn F n P a w K Q:=by cases o;rfl
theorem zbi {l:List Oper} {i j:Nat} (hB:zdw l i j=true):∀(f:Nat) (b:Array Bool) (a:Act) (w:World),
  (∀(x:Nat) (o:Oper),l[x]?=some o→b.getD x true=true→∀e,e∈o.after→Region.binds .any e=true→b.getD e.on false=true) →
   wpAnyIn F n P .any (l.modify i (vd j)).toArray Q f b a w→wpAnyIn F n P .any l.toArray Q f b a w:=by
 have rdy:∀(b:Array Bool),(∀(x:Nat) (o:Oper),l[x]?=some o→b.getD x true=true→∀e,e∈o.after→Region.binds .any e=true→b.getD e.on false=true)→∀k,k∈Region.ready .any l.toArray b↔k∈Region.ready .any (l.modify i (vd j)).toArray b:=by
  exact Xaj
 intro f
 induction f with
 | zero =>
  exact Xbu
 | succ f ih =>
  intro b a w hc h;refine ⟨fun h0=>h.1 ?_,fun k hk=>?_⟩
  ·rw [List.eq_nil_iff_forall_not_mem]
   intro k hk;have:=(rdy b hc k).2 hk;rw [h0] at this;cases this
  ·have hx:=h.2 k ((rdy b hc k).1 hk)
   obtain ⟨h0,o,ho,he⟩:=mem_ready.1 hk;rw [List.getElem?_toArray] at ho
   have hc':∀(x:Nat) (o:Oper),l[x]?=some o→(b.setIfInBounds k true).getD x true=true→∀e,e∈o.after→Region.binds .any e=true→(b.setIfInBounds k true).getD e.on false=true:=by
    exact Xa4
   unfold wpOpIn at hx ⊢;simp only [List.getElem?_toArray,List.getElem?_modify,ho,Vf] at hx ⊢
   by_cases hik:i=k
   ·simp only [hik,if_true,Option.map_eq_map,Option.map_some] at hx
    have hw:Region.wanted (vd j o) (yielded l.toArray a.tmps)=Region.wanted o (yielded l.toArray a.tmps):=rfl;rw [hw] at hx
    split at hx
    ·rename_i hwt
     rw [if_pos hwt];rw [ziA] at hx;subst hik;exact Oper.wpIn_mono (fun a' w' h'=>ih _ _ _ hc' h') hx
    ·rename_i hwt
     rw [if_neg hwt];subst hik;exact ⟨hx.1,ih _ _ _ hc' hx.2⟩
   ·simp only [hik,if_false,Option.map_eq_map,Option.map_some,id] at hx
    split at hx
    ·rename_i hwt
     rw [if_pos hwt];exact Oper.wpIn_mono (fun a' w' h'=>ih _ _ _ hc' h') hx
    ·rename_i hwt
     rw [if_neg hwt];exact ⟨hx.1,ih _ _ _ hc' hx.2⟩
theorem zcD {l:List Oper} (i j:Nat) (hB:zdw l i j=true) {a:Act} {w:World} (h:wpAnyIn F n P .any (l.modify i (vd j)).toArray Q (l.modify i (vd j)).toArray.size (Array.replicate (l.modify i (vd j)).toArray.size false) a w) :
  wpAnyIn F n P .any l.toArray Q l.toArray.size (Array.replicate l.toArray.size false) a w:=by
 have e:(l.modify i (vd j)).toArray.size=l.toArray.size:=by simp
 rw [e] at h;refine zbi hB _ _ a w (fun x o ho hx=>?_) h;have hlt:x<l.length:=(List.getElem?_eq_some_iff.1 ho).1;simp [hlt] at hx
theorem zgM {a:Act} {w:World} {l:List Oper} (hF:zbk F) (G:List Nat) (z:Nat) {r:List (Nat×Nat×Oper)} (hl:zu l r) (hd:l.toArray.all qY=true) (hB:Vu l.toArray z (r.map fun x=>(x.1,x.2.1))=true) (hQ:∀c a d v w,Q (.panic c) (a.put d v) w→Q (.panic c) a w)
  (h:jI F n P l.toArray (fun w'=>∃x:But w G,w'=x.w) Q z r a w.drew):wpAnyIn F n P .any l.toArray Q l.toArray.size (Array.replicate l.toArray.size false) a w.drew:=by
 simp only [Vu,Bool.and_eq_true,decide_eq_true_eq,List.length_map] at hB;have:=vj (P:=P) (Q:=Q) (n:=n) (S:=fun w'=>∃x:But w G,w'=x.w) hF.fn hd hB.1.1 hQ r _ a w.drew (fun x hx=>by rw [List.getElem?_toArray];exact hl x hx) hB.1.2 (fun _=>⟨⟨w.drew,(zC.refl w G).drew⟩,rfl⟩) h;rw [hB.2] at this;exact YL _ _ _ _ this
end
end
def zdL:List Int→Int
 | []=>0
 | x::xs=>x+256*zdL xs
theorem zby {x:Int} (h0:0≤x) (h1:x<18446744073709551616):IntKind.u64.wrap x=x:=by
 show x%_=x;exact Int.emod_eq_of_lt h0 h1
theorem zgt {v c:Int} (h0:0≤v) (h1:v<72057594037927936) (hc0:0≤c) (hc1:c<256):Yi v c=c+256*v:=by
 unfold Yi;rw [zby (by omega) (by omega),zby hc0 (by omega)];obtain ⟨a,rfl⟩:=Int.eq_ofNat_of_zero_le h0;obtain ⟨b,rfl⟩:=Int.eq_ofNat_of_zero_le hc0;have hb:b<2^8:=by omega
 have e:=u64_or_nat (a*256) b (by omega) (by omega);rw [show ((a:Int)*256)=((a*256:Nat):Int) by omega,e];have e2:=Nat.shiftLeft_add_eq_or_of_lt hb a;rw [Nat.shiftLeft_eq] at e2;rw [show a*256 ||| b=a*256+b from e2.symm];omega
theorem zjP (xs:List Int):(yC xs).map (·.2)=xs.reverse:=by
 unfold yC;rw [List.map_map,←List.map_reverse.symm]
 congr 1
 apply List.ext_getElem?;intro i
 by_cases h:i<xs.length
 ·rw [List.getElem?_map,List.getElem?_range h]
  simp [List.getD_eq_getElem?_getD,List.getElem?_eq_getElem h]
 ·rw [List.getElem?_eq_none (by simp;omega),List.getElem?_eq_none (by omega)]
theorem zbE:∀(xs:List Int),IsB xs→0≤zdL xs∧zdL xs<256^xs.length
 | [],_=>by simp [zdL]
 | x::xs,h=>by
  have h1:=h x (by simp);have h2:=zbE xs (fun y hy=>h y (by simp [hy]));rw [List.length_cons,Int.pow_succ];unfold zdL;omega
theorem zfn:∀(xs:List Int),IsB xs→xs.length≤8→xs.foldr (fun x v=>Yi v x) 0=zdL xs
 | [],_,_=>rfl
 | x::xs,h,hl=>by
  have h1:=h x (by simp);have hb:IsB xs:=fun y hy=>h y (by simp [hy]);have h2:=zbE xs hb;have hl':xs.length≤7:=by simpa using hl
  have hp:(256:Int)^xs.length≤256^7:=by
   have:(256:Nat)^xs.length≤256^7:=Nat.pow_le_pow_right (by omega) hl';have e:((256^xs.length:Nat):Int)≤((256^7:Nat):Int):=Int.ofNat_le.2 this;rw [Int.natCast_pow,Int.natCast_pow] at e;exact e
  rw [List.foldr_cons,zfn xs hb (by omega),zgt h2.1 (by omega) h1.1 h1.2];rfl
theorem zaX {xs:List Int} (h:IsB xs) (hl:xs.length≤8):Zo (yC xs)=zdL xs:=by
 have e:Zo (yC xs)=((yC xs).map (·.2)).foldl Yi 0:=by unfold Zo;rw [List.foldl_map]
 rw [e,zjP,List.foldl_reverse];exact zfn xs h hl
theorem zfg (x:Int) (k:Nat):IsB (jh x k):=by
 exact Xbb
theorem zh1 {x:Int} (h0:-9223372036854775808≤x) (h1:x≤9223372036854775807):VE (jh x 8)=x:=by
 unfold VE;rw [zaX (zfg _ _) (by rw [jz];omega)];obtain ⟨u,hu⟩:=zc (IntKind.u64.wrap x);have hu2:u=x%18446744073709551616:=hu.symm
 have e:jh x 8=[u%256,u / 256%256,u / 65536%256,u / 16777216%256,u / 4294967296%256,u / 1099511627776%256,u / 281474976710656%256,u / 72057594037927936%256]:=by
  rw [←hu];unfold jh Vc;rw [show List.range 8=[0,1,2,3,4,5,6,7] from rfl];simp
 rw [e];simp only [zdL];unfold wrap64;omega
theorem zds {x:Int} (h0:0≤x) (h1:x<4294967296):VE (jh x 4)=x:=by
 unfold VE;rw [zaX (zfg _ _) (by rw [jz];omega)]
 have e:jh x 4=[x%256,x / 256%256,x / 65536%256,x / 16777216%256]:=by
  unfold jh Vc;rw [zby h0 (by omega),show List.range 4=[0,1,2,3] from rfl];simp
 rw [e];simp only [zdL];unfold wrap64;omega
end Go.Proofs.YtcoiklclbljjeaaGreatDoor.L
