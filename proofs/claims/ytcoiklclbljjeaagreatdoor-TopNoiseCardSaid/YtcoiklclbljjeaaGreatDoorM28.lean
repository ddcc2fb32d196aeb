/- Lemmas of the card's proof. -/
import Derived.Deep.DeepCutAuto
import Derived.Test.YtcoiklclbljjeaaGreatDoorM26
set_option linter.unusedVariables false
set_option linter.unusedSimpArgs false
set_option maxRecDepth 100000
set_option maxHeartbeats 16000000
namespace Go.Proofs.YtcoiklclbljjeaaGreatDoor.L
open Go.RowKit
section
attribute [local go_sem] Oper.semAt_some
theorem qy.rest {W:World} {B k i:Nat} {v:Value} {R:List Row} {r:Row} (h:qy W B v R 0) (hi:R[i]?=some r) (hk:k≤r.xs.length):zk W (some ⟨r.g,k*4,none⟩) (r.xs.length-k) (r.cap-k) (r.xs.drop k):=(Row.nums (h.rows r (List.mem_of_getElem? hi))).drop k hk
def zch (x:List Num):Num:=if 0≤(x.getD 0 qe).sign then ((Zf x x).root).neg else (Zf x x).root
def zcg (x:List Num) (p:Num):List Num:=x.set 0 ((x.getD 0 qe).sub p)
def zkM (v xs:List Num) (q:Num):Num:=((Zf xs v).add (Zf xs v)).div q
def zcf (k:Nat) (v:List Num) (q:Num) (_:Nat) (xs:List Num):List Num:=xs.take k++vB (xs.drop k) (qr v (zkM v (xs.drop k) q))
def qT (k:Nat) (xs:List Num) (j:Nat):List Num:=xs.take k++List.replicate j (Num.of 0)++xs.drop (k+j)
theorem zel {k:Nat} {xs:List Num}:qT k xs 0=xs:=by unfold qT;simp
theorem zaY {k j c:Nat} {xs:List Num} (h:k+j≤c) (hl:xs.length=c):(qT k xs j).length=c:=by unfold qT;simp;omega
theorem zfo {k j:Nat} {xs:List Num} (h:k+j<xs.length):(qT k xs j).set (k+j) (Num.of 0)=qT k xs (j+1):=by
 unfold qT;have hl:(xs.take k++List.replicate j (Num.of 0)).length=k+j:=by simp;omega
 rw [List.set_append_right _ _ (by omega),hl,Nat.sub_self,List.drop_eq_getElem_cons h,List.set_cons_zero];simp [List.replicate_succ', Nat.add_assoc]
theorem zeL {α:Type} {l:List α} {i:Nat} {x:α} (h:l[i]?=some x):l.set i x=l:=by
 apply List.ext_getElem?;intro j;rw [List.getElem?_set]
 by_cases e:i=j
 ·subst e;rw [if_pos rfl,if_pos (List.getElem?_eq_some_iff.1 h).1,h]
 ·rw [if_neg e]
def Ja (k n:Nat) (R:List Row) (r:Row):List Row :=
 let x:=r.xs.drop k
 let p:=zch x
 let v:=zcg x p
 (yx (Row.on (zcf k v (Zf v v))) R (k+1) n).set k ⟨r.g,r.cap,(qT k r.xs (r.xs.length-k)).set k p⟩
theorem zgp (n c k:Nat) (R:List Row) (r:Row) (vg vc B:Nat) (hn:n≤4) (hc:c≤16) (hR:R.length=n) (hrow:∀r,r∈R→r.xs.length=c) (hk:k<n) (hkc:k<c) (hr:R[k]?=some r) (w:World)
  (hT:qy w B (.slice (some ⟨vg,0,none⟩) n vc) R 0) :
  Calls Tryz.prog 172 #[.slice (some ⟨vg,0,none⟩) n vc,.int .i64 (k:Int)] w fun e w'=>e=.returned (.tuple #[])∧qy w' B (.slice (some ⟨vg,0,none⟩) n vc) (Ja k n R r) 0∧zD (R.map Row.g) w w':=by
 have hu:=Tryz.underlying71;have hu1:=Tryz.underlying63;have hu2:=Tryz.underlying131;have hrl:=hrow r (List.mem_of_getElem? hr);obtain ⟨y,hy⟩:∃y,r.xs[k]?=some y:=⟨_,List.getElem?_eq_getElem (by omega)⟩
 have hx0:(r.xs.drop k)[0]?=some y:=by rw [List.getElem?_drop];exact hy
 obtain ⟨m,hm⟩:=zc (c-k);obtain ⟨x,hx⟩:=zc (r.xs.drop k);have hxl:x.length=m:=by rw [←hx,List.length_drop,hrl,hm]
 obtain ⟨d,hd⟩:=zc (Zf x x);obtain ⟨s,hs⟩:=zc (d.root);obtain ⟨z,hz⟩:=zc (s.neg);obtain ⟨p,hp⟩:=zc (zch x);obtain ⟨f,hf⟩:=zc (y.sub p);obtain ⟨v,hv⟩:=zc (zcg x p);obtain ⟨q,hq⟩:=zc (Zf v v);have hvx:x.set 0 f=v:=by rw [←hv];unfold zcg;rw [hx] at hx0;rw [Zp hx0,hf]
 have hvl:v.length=m:=by rw [←hvx,List.length_set,hxl]
 have hp2:p=if 0≤y.sign then z else s:=by rw [←hp];unfold zch;rw [hx] at hx0;rw [Zp hx0,hd,hs,hz]
 obtain ⟨R2,hR2⟩:=zc (Ja k n R r);have HR2:=za (show (yx (Row.on (zcf k v q)) R (k+1) n).set k ⟨r.g,r.cap,(qT k r.xs m).set k p⟩=R2 by rw [←hR2];unfold Ja;simp only [hx,hp,hv,hq,hrl,hm]);rw [hR2];have HT:=za hT;have C1:=za (fun (Q:Option Addr) (a:Nat) (W:World) (h:zk W Q m a x)=>Zm Q Q m a m a x x (by omega) (by omega) W h h);have C2:=za (fun W=>zck d W);have C3:=za (fun W=>zfq y W)
 have C4:=za (fun W=>zhf s W);have C5:=za (fun W=>Yk y p W);have C6:=za (fun (Q:Option Addr) (a:Nat) (W:World) (h:zk W Q m a v)=>Zm Q Q m a m a v v (by omega) (by omega) W h h);have C7:=za (fun W=>zep p 0 W);rw [hd] at C1;rw [hs] at C2;rw [hz] at C4;rw [hf] at C5;rw [hq] at C6;have HM:=za hm;have HX:=za hx;have HVX:=za hvx;have HP2:=za hp2;clear hT hd hs hz hp hf hv hq hx hvx hR2 hm
 obtain ⟨yv,yl,yh,yb⟩:=y;obtain ⟨dv,dl,dh,db⟩:=d;obtain ⟨sv,sl,sh,sb⟩:=s;obtain ⟨zv,zl,zh,zb⟩:=z;obtain ⟨pv,pl,ph,pb⟩:=p;obtain ⟨fv,fl,fh,fb⟩:=f;obtain ⟨qv,ql,qh,qb⟩:=q;unfold Num.val at C1 C2 C3 C4 C5 C6 C7;dsimp only at C1 C2 C3 C4 C5 C6 C7;have hm1:=fun W=>zah dv dl dh db W;have hm2:=fun W=>zdj yv yl yh yb W;have hm3:=fun W=>ze2 sv sl sh sb W;have hm4:=fun W=>JJ yv yl yh yb W
 have hm5:=fun W=>zbp pv pl ph pb W;have hki:(k:Int)<(n:Int):=by omega
 have hkl:(k:Int)≤(c:Int):=by omega
 have hvl0:=(World.ownsRow.lt HT.out.box _ rfl).2;have hrc:c≤r.cap:=by have:=(Row.nums (HT.out.rows r (List.mem_of_getElem? hr))).2.1;omega
 obtain ⟨cx,hcx⟩:=zc (r.cap-k);have t0:=HT.out.cell hr;rw [hrl] at t0;go_enter Tryz.func172,Tryz.ntmps172;go_wp2_with fail;have F:=za (Off.startG (k:=0) (G:=(R.map Row.g)) (fun q hq=>by obtain ⟨r,hr,rfl⟩:=List.mem_map.1 hq;exact (ZE (HT.out.rows r hr)).2) (Below.refl _ _) rfl);obtain ⟨g,hg⟩:=zc (w.heap.size)
 try simp only [Nat.add_zero] at F
 rw [hg] at F
 try simp only [hg]
 have H:=za (Off.mk0 (lo:=w.heap.size) (hi:=w.heap.size) (Nat.le_refl _) (Nat.le_refl _) (fun X hX=>HT.out.off (fun q e=>by cases e;exact hvl0) (fun r hr=>(ZE (HT.out.rows r hr)).2) X hX));rw [hg] at H hvl0;have hxn:∀W,qy W B (.slice (some ⟨vg,0,none⟩) n vc) R 0→zk W (some ⟨r.g,k*4,none⟩) m cx x:=fun W h=>by have:=h.rest hr (k:=k) (by omega);rw [hrl,HX.out,HM.out,hcx] at this;exact this
 have HXN:=za hxn;rw [HM.out];clear hxn hcx;refine (C1.out _ _ _ (HXN.out _ H.out.out)).mono ?_;rintro e w1 ⟨rfl,hb⟩;replace F:=zd F hb;replace H:=za (H.out.call hb);clear hb;go_wp2_with fail;refine (C2.out _).mono ?_;rintro e w2 ⟨rfl,hb⟩;replace F:=zd F hb;replace H:=za (H.out.call hb);clear hb;obtain ⟨y0,y1,y2,y3⟩:=(H.out.alloc (.cells #[sv,sl,sh,sb] 71)).out.num hr hy;have hlm:(0:Int)<(m:Int):=by have:=HM.out;omega
 dsimp only at y0 y1 y2 y3;go_wp2_with fail;replace F:=za F.out.now;replace H:=za H.out.now;obtain ⟨Xbp,hXbp⟩:=zc (w2.alloc (.cells #[sv,sl,sh,sb] 71));obtain ⟨bx,b0,hsz⟩:=z6 hXbp;rw [hXbp];have lbp:=F.out.hiw;replace F:=zd F b0;replace H:=za (H.out.call b0);have P:=za bx.1;obtain ⟨bp,hbp⟩:=zc (w2.heap.size);rw [hbp] at F lbp P H
 try simp only [hbp]
 clear bx b0 hsz hbp hXbp;refine (C3.out _).mono ?_;rintro e w3 ⟨rfl,hb⟩;replace F:=zd F hb;replace H:=za (H.out.call hb);replace P:=za (P.out.below hb);clear hb y0 y1 y2 y3
 go_upto_if 28 with fail
 go_cut [] from 28 to 31 (fun wx=>Hid (Off (R.map Row.g) g g bp (fun X=>zD (R.map Row.g) w X) wx)∧Hid (Off [] g g bp (fun X=>qy X B (.slice (some ⟨vg,0,none⟩) n vc) R 0) wx)∧Hid (At wx bp 71 #[pv,pl,ph,pb]))
 case first =>
  by_cases hsg:0≤Num.sign ⟨yv,yl,yh,yb⟩
  ·have hpz:=HP2.out
   rw [if_pos hsg] at hpz;cases hpz;obtain ⟨r0,r1,r2,r3⟩:=P.out.four;go_wp2_with fail;refine (C4.out _).mono ?_;rintro e w4 ⟨rfl,hb⟩;replace F:=zd F hb;replace H:=za (H.out.call hb);replace P:=za (P.out.below hb);clear hb r0 r1 r2 r3;have r0:=(P.out).cell 0;have zr0:=(P.out).frozen 0;have r1:=(P.out).cell 1;have zr1:=(P.out).frozen 1;have r2:=(P.out).cell 2;have zr2:=(P.out).frozen 2
   have r3:=(P.out).cell 3;have zr3:=(P.out).frozen 3;go_wp2_with fail
   go_meet
   exact ⟨za (F.out.set4 (g:=bp) (.inr (by omega)) zv zl zh zb),za (H.out.set4 (g:=bp) (.inr (by omega)) zv zl zh zb),za (P.out.set4 zv zl zh zb)⟩
  ·have hpz:=HP2.out
   rw [if_neg hsg] at hpz;cases hpz;go_wp2_with fail
   go_meet
   exact ⟨F,H,P⟩
 case rest =>
  obtain ⟨F,H,P⟩:=hcut;obtain ⟨cs,hmk,hown⟩:=zdm m (by have:=HM.out;omega) wc;have HO:=za hown;have hbw:=za (zg (Below.refl wc.heap.size wc) (.cells cs 71));clear hown;go_wp2_with (refine Ji rfl (.tmp 35) (.tmp 36) rfl rfl (b:=0) rfl rfl HO.out (HXN.out _ (H.out.alloc _).out) (by simp) ?_;intro w5 hon hw5)
  obtain ⟨bv,hbv⟩:=zc (wc.heap.size);have hpv:bp<bv:=by rw [←hbv];exact P.out.lt
  replace F:=za ((F.out.now.call hbw.out).sim (hon.sim (.inr (Nat.le_refl _))));replace H:=za ((H.out.now.call hbw.out).sim (hon.sim (.inr (Nat.le_refl _))));replace P:=za (hon.at_ (P.out.below hbw.out) (by omega));have V:=za hw5;rw [hbv,show (List.replicate m qe).take 0++x++(List.replicate m qe).drop (0+m)=x by simp] at V;rw [hbv] at F H
  try simp only [hbv]
  clear HO hw5 hon hbw hmk;have hxv:x[0]?=some ⟨yv,yl,yh,yb⟩:=by rw [←HX.out];exact hx0
  obtain ⟨x0,x1,x2,x3⟩:=V.out.num (j:=0) hxv;simp only [Nat.zero_mul,Nat.zero_add] at x0 x1 x2 x3;have p0:=(P.out).cell 0;have p1:=(P.out).cell 1;have p2:=(P.out).cell 2;have p3:=(P.out).cell 3;go_simp;have hstart:=F.out.hiw;refine zG [] (.rd (i:=0) rfl (.rd (i:=1) rfl (.rd (i:=2) rfl (.rd (i:=3) rfl (.rd (i:=4) rfl (.rd (i:=5) rfl (.tl (i:=6) rfl (.rd (i:=7) rfl (.tl (i:=8) rfl .nil))))))))) (by kernel_rfl) (by kernel_rfl) (fun c a d v w h=>by cases d<;>exact h) (fun c a d v w h=>by cases d<;>exact h) (by simp) ?_
  have kx0:=fun x=>But.cell (G:=[]) x0 (by simp) x;have kx1:=fun x=>But.cell (G:=[]) x1 (by simp) x;have kx2:=fun x=>But.cell (G:=[]) x2 (by simp) x;have kx3:=fun x=>But.cell (G:=[]) x3 (by simp) x;have kp0:=fun x=>But.cell (G:=[]) p0 (by simp) x;have kp1:=fun x=>But.cell (G:=[]) p1 (by simp) x;have kp2:=fun x=>But.cell (G:=[]) p2 (by simp) x;have kp3:=fun x=>But.cell (G:=[]) p3 (by simp) x
  iterate 6 (refine zf ?_;go_big_quiet_step (fail);refine wpQuiet_nil ?_)
  clear kx0 kx1 kx2 kx3 kp0 kp1 kp2 kp3;refine zm rfl (fun w6 hb K hK=>?_);replace hb:=qi hb;go_simp;replace F:=zd F hb;replace H:=za (H.out.call hb);replace P:=za (P.out.below hb);replace V:=za (V.out.below hb);clear hb;refine (C5.out _).mono ?_;rintro e w7 ⟨rfl,hb⟩;refine hK _ _ ((zC.refl _ _).call hb) ?_;clear hK K;replace F:=zd F hb;replace H:=za (H.out.call hb);replace P:=za (P.out.below hb)
  replace V:=za (V.out.below hb);clear hb x0 x1 x2 x3 p0 p1 p2 p3;refine zf ?_;go_big_quiet_step (fail);refine wpQuiet_nil ?_;refine zJ rfl (fun w8 hb K hK=>?_);replace F:=zd F hb;replace H:=za (H.out.call hb);replace P:=za (P.out.below hb);replace V:=za (V.out.below hb);clear hb;obtain ⟨x0,x1,x2,x3⟩:=V.out.num (j:=0) hxv;simp only [Nat.zero_mul,Nat.zero_add] at x0 x1 x2 x3;have z0:=V.out.frozen 0
  have z1:=V.out.frozen 1;have z2:=V.out.frozen 2;have z3:=V.out.frozen 3;go_simp;refine hK _ _ ?_;clear hK K x0 x1 x2 x3 z0 z1 z2 z3;have hon:=z7.set4 bv 0 1 2 3 w8 fv fl fh fb;replace F:=za (F.out.sim (hon.sim (.inr (by omega))));replace H:=za (H.out.sim (hon.sim (.inr (by omega))));replace P:=za (hon.at_ P.out (by omega));replace V:=za (zH.put_ V.out 0 (by omega) ⟨fv,fl,fh,fb⟩ 0 1 2 3 rfl rfl rfl rfl)
  rw [HVX.out] at V;obtain ⟨w9,hw9⟩:=zc (((((w8.setCell ⟨bv,0,none⟩ fv).setCell ⟨bv,1,none⟩ fl).setCell ⟨bv,2,none⟩ fh).setCell ⟨bv,3,none⟩ fb));dsimp only at V;rw [hw9] at F H P V ⊢;clear hw9 hon;replace F:=za (F.out.plus (P.out.off_ (.inr (by omega)) (F.out.out_G (by omega))));replace F:=za (F.out.plus (V.out.nums.off_ (fun b o e _=>by cases e;exact ⟨.inr (by omega),F.out.out_G (by omega)⟩)))
  clear P V;go_wp2_with fail;refine (C6.out _ _ _ F.out.out.2).mono ?_;rintro e w10 ⟨rfl,hb⟩;replace F:=zd F hb;replace H:=za (H.out.call hb);clear hb;go_wp2_with fail;obtain ⟨Xbq,hXbq⟩:=zc (w10.alloc (.cells #[qv,ql,qh,qb] 71));obtain ⟨bx,b0,hsz⟩:=z6 hXbq;rw [hXbq];have lbq:=F.out.hiw;replace F:=za (F.out.gotA b0 bx );replace H:=za (H.out.call b0);obtain ⟨bq,hbq⟩:=zc (w10.heap.size)
  rw [hbq] at F lbq
  try simp only [hbq]
  clear bx b0 hsz hbq hXbq;have hTO:=za H.out.out;obtain ⟨D,hD⟩:=zc (zcf k v ⟨qv,ql,qh,qb⟩);have HD:=za hD;rw [hD] at HR2;clear hD H
  go_loopw [8] (fun i wr=>∃j:Nat,k+1≤j∧j≤n∧i=.int .i64 j∧Hid (zD (R.map Row.g) Xbq wr)∧Hid (qy wr B (.slice (some ⟨vg,0,none⟩) n vc) (yx (Row.on D) R (k+1) j) 0)) (fun i _=>n-(intOf i).toNat)
  case atStart=>exact ⟨k+1,Nat.le_refl _,by omega,by go_num,za (zD.refl _ _),za (by rw [YP];exact hTO.out)⟩
  case round =>
   obtain ⟨j,hjk,hjn,rfl,HB,HH⟩:=hrel;replace F:=za (F.out.touch HB.out)
   by_cases hlt:j<n
   ·have hlt':(j:Int)<(n:Int):=by omega
    obtain ⟨r2,hr2⟩:∃r2,R[j]?=some r2:=⟨_,List.getElem?_eq_getElem (by omega)⟩
    have hrl2:=hrow r2 (List.mem_of_getElem? hr2);have hRj:(yx (Row.on D) R (k+1) j)[j]?=some r2:=by rw [zdM];exact hr2
    have hm:=HM.out;obtain ⟨c2,hc2⟩:=zc (r2.cap-k);obtain ⟨x2,hx2⟩:=zc (r2.xs.drop k);have hx2l:x2.length=m:=by rw [←hx2,List.length_drop,hrl2,hm]
    have hrc2:c≤r2.cap:=by have:=(Row.nums (HH.out.rows r2 (List.mem_of_getElem? hRj))).2.1;omega
    obtain ⟨a,ha⟩:=zc (Zf x2 v);obtain ⟨b,hb9⟩:=zc (a.add a);obtain ⟨e,he⟩:=zc (b.div ⟨qv,ql,qh,qb⟩);have K1:=za (fun (W:World) (h1:zk W (some ⟨r2.g,k*4,none⟩) m c2 x2) (h2:zk W (some ⟨bv,0,none⟩) m m v)=>Zm _ _ m c2 m m x2 v (by omega) (by omega) W h1 h2);have K2:=za (fun W=>Yl a a W);have K3:=za (fun W=>VH b ⟨qv,ql,qh,qb⟩ W);have K4:=za (fun (W:World) (h:zk W (some ⟨bv,0,none⟩) m m v)=>J9 _ m m v e (by omega) W h)
    have K5:=za (fun (Q:Option Addr) (z:Nat) (W:World) (h1:zk W (some ⟨r2.g,k*4,none⟩) m c2 x2) (h2:zk W Q m z (qr v e))=>zgP _ Q m c2 m z x2 _ (by omega) (by omega) W h1 h2);rw [ha] at K1;rw [hb9] at K2;rw [he] at K3
    have HDX:=za (show r2.xs.take k++vB x2 (qr v e)++r2.xs.drop (k+m)=D j r2.xs by
     rw [←HD.out];unfold zcf zkM;rw [hx2,ha,hb9,he,List.drop_of_length_le (by omega),List.append_nil])
    have hsl:(qr v e).length=m:=by unfold qr;rw [List.length_map];exact hvl
    have hsb:(vB x2 (qr v e)).length=m:=by unfold L.vB;rw [List.length_map,List.length_zip];omega
    have HX2:=za hx2;clear ha hb9 he hx2;obtain ⟨av,al,ah,ab⟩:=a;obtain ⟨bbv,bl,bh,bb⟩:=b;obtain ⟨ev,el,eh,eb⟩:=e;unfold Num.val at K1 K2 K3 K4;dsimp only at K1 K2 K3 K4;have hm1:=fun W=>Qz av al ah ab W;have hm2:=fun W=>JL bbv bl bh bb W;have hRg:∀r,r∈yx (Row.on D) R (k+1) j→r.g<g:=fun r hr=>F.out.gl _ (by rw [←YQ (f:=D) (R:=R) (j:=k+1) (k:=j)];exact List.mem_map_of_mem hr)
    have H:=za (Off.mk0 F.out.le F.out.hiw (fun X hX=>HH.out.off (fun q e=>by cases e;exact hvl0) hRg X hX));have t0:=H.out.out.cell hRj;rw [hrl2] at t0;have hx2n:∀W,qy W B (.slice (some ⟨vg,0,none⟩) n vc) (yx (Row.on D) R (k+1) j) 0→zk W (some ⟨r2.g,k*4,none⟩) m c2 x2:=fun W h=>by have:=h.rest hRj (k:=k) (by omega);rw [hrl2,HX2.out,hm,hc2] at this;exact this
    have HX2N:=za hx2n;have HSL:=za hsl;clear HH hx2n hsl;go_wp2_with fail;refine (K1.out _ (HX2N.out _ H.out.out) F.out.out.1.2).mono ?_;rintro e w21 ⟨rfl,hb⟩;replace F:=zd F hb;replace H:=za (H.out.call hb);replace HB:=za (HB.out.call hb);clear hb t0;go_wp2_with fail;replace F:=za F.out.now;replace H:=za H.out.now;obtain ⟨Xbt,hXbt⟩:=zc (w21.alloc (.cells #[av,al,ah,ab] 71));obtain ⟨bx,b0,hsz⟩:=z6 hXbt
    rw [hXbt];have lbt:=F.out.hiw;have sHBbt:=HB.out.size;replace F:=zd F b0;replace H:=za (H.out.call b0);replace HB:=za (HB.out.call b0);have TT:=za bx.1;obtain ⟨bt,hbt⟩:=zc (w21.heap.size);rw [hbt] at F lbt TT H sHBbt
    try simp only [hbt]
    clear bx b0 hsz hbt hXbt;have r0:=(TT.out).cell 0;have r1:=(TT.out).cell 1;have r2:=(TT.out).cell 2;have r3:=(TT.out).cell 3;have q0:=(F.out.out.2).cell 0;have q1:=(F.out.out.2).cell 1;have q2:=(F.out.out.2).cell 2;have q3:=(F.out.out.2).cell 3;have hstart:=F.out.hiw;refine zG [] (.rd (i:=0) rfl (.rd (i:=1) rfl (.rd (i:=2) rfl (.rd (i:=5) rfl (.tl (i:=3) rfl (.rd (i:=4) rfl (.tl (i:=6) rfl (.tl (i:=7) rfl .nil)))))))) (by kernel_rfl) (by kernel_rfl) (fun c a d v w h=>by cases d<;>exact h) (fun c a d v w h=>by cases d<;>exact h) (by simp) ?_
    have kr0:=fun x=>But.cell (G:=[]) r0 (by simp) x;have kr1:=fun x=>But.cell (G:=[]) r1 (by simp) x;have kr2:=fun x=>But.cell (G:=[]) r2 (by simp) x;have kr3:=fun x=>But.cell (G:=[]) r3 (by simp) x;have kq0:=fun x=>But.cell (G:=[]) q0 (by simp) x;have kq1:=fun x=>But.cell (G:=[]) q1 (by simp) x;have kq2:=fun x=>But.cell (G:=[]) q2 (by simp) x;have kq3:=fun x=>But.cell (G:=[]) q3 (by simp) x
    iterate 4 (refine zf ?_;go_big_quiet_step (fail);refine wpQuiet_nil ?_)
    clear kr0 kr1 kr2 kr3 kq0 kq1 kq2 kq3;refine zm rfl (fun w22 hb K hK=>?_);replace hb:=qi hb;go_simp;replace F:=zd F hb;replace H:=za (H.out.call hb);replace HB:=za (HB.out.call hb);replace TT:=za (TT.out.below hb);clear hb;refine (K2.out _).mono ?_;rintro e w23 ⟨rfl,hb⟩;refine hK _ _ ((zC.refl _ _).call hb) ?_;clear hK K;replace F:=zd F hb;replace H:=za (H.out.call hb);replace HB:=za (HB.out.call hb)
    replace TT:=za (TT.out.below hb);clear hb r0 r1 r2 r3 q0 q1 q2 q3;refine zf ?_;go_big_quiet_step (fail);refine wpQuiet_nil ?_;refine zm rfl (fun w24 hb K hK=>?_);go_simp;replace F:=zd F hb;replace H:=za (H.out.call hb);replace HB:=za (HB.out.call hb);replace TT:=za (TT.out.below hb);clear hb;refine (K3.out _).mono ?_;rintro e w25 ⟨rfl,hb⟩;refine hK _ _ ((zC.refl _ _).call hb) ?_;clear hK K
    replace F:=zd F hb;replace H:=za (H.out.call hb);replace HB:=za (HB.out.call hb);replace TT:=za (TT.out.below hb);clear hb;refine zJ rfl (fun w26 hb K hK=>?_);replace F:=zd F hb;replace H:=za (H.out.call hb);replace HB:=za (HB.out.call hb);replace TT:=za (TT.out.below hb);clear hb;have rr0:=(TT.out).cell 0;have zrr0:=(TT.out).frozen 0;have rr1:=(TT.out).cell 1;have zrr1:=(TT.out).frozen 1
    have rr2:=(TT.out).cell 2;have zrr2:=(TT.out).frozen 2;have rr3:=(TT.out).cell 3;have zrr3:=(TT.out).frozen 3;go_simp;refine hK _ _ ?_;clear hK K rr0 zrr0 rr1 zrr1 rr2 zrr2 rr3 zrr3;replace F:=za (F.out.set4 (g:=bt) (.inr (by omega)) ev el eh eb);replace H:=za (H.out.set4 (g:=bt) (.inr (by omega)) ev el eh eb);replace HB:=za (HB.out.set4 (g:=bt) (.inr (by omega)) ev el eh eb)
    replace TT:=za (TT.out.set4 ev el eh eb);obtain ⟨w27,hw27⟩:=zc (((((w26.setCell ⟨bt,0,none⟩ ev).setCell ⟨bt,1,none⟩ el).setCell ⟨bt,2,none⟩ eh).setCell ⟨bt,3,none⟩ eb));rw [hw27] at F TT H HB ⊢;clear hw27;replace F:=za (F.out.plus (TT.out.off_ (.inr (by omega)) (F.out.out_G (by omega))));clear TT;have r0:=(F.out.out.2).cell 0;have r1:=(F.out.out.2).cell 1;have r2:=(F.out.out.2).cell 2
    have r3:=(F.out.out.2).cell 3;go_wp2_with fail;refine (K4.out _ F.out.out.1.1.2).mono ?_;rintro e w28 ⟨Q1,a1,b1,rfl,ho,hb⟩;have hn1:m=a1:=by have:=zL ho;rw [HSL.out] at this;exact this.symm
    subst hn1;replace F:=za (F.out.gotO hb ho );replace H:=za (H.out.call hb);replace HB:=za (HB.out.call hb);clear hb ho r0 r1 r2 r3;go_wp2_with fail;refine (K5.out Q1 b1 _ (HX2N.out _ H.out.out) F.out.out.2).mono ?_;rintro e w29 ⟨Q2,a2,b2,rfl,ho,hb⟩;have hn2:m=a2:=by have:=zL ho;omega
    subst hn2;replace F:=za (F.out.gotO hb ho );replace H:=za (H.out.call hb);replace HB:=za (HB.out.call hb);clear hb ho;have hRO:zH w29 B (.slice (some ⟨r2.g,0,none⟩) c r2.cap) r2.xs:=by have:=H.out.out.rows r2 (List.mem_of_getElem? hRj);rw [←hrl2];exact this
    have HRO:=za hRO;clear hRO;go_wp2_with (refine Ji rfl (.tmp 73) (.tmp 78) rfl rfl (b:=k) rfl rfl HRO.out (F.out.out.2) (by omega) ?_;intro w40 hon hw40)
    rw [HDX.out] at hw40;have hdl:(D j r2.xs).length=r2.xs.length:=by rw [←HDX.out];simp only [List.length_append,List.length_take,List.length_drop,hsb];omega
    have HT1:=za (H.out.out.upd hRj (ys:=D j r2.xs) hdl hon (by rw [hrl2];exact hw40));rw [show (⟨r2.g,r2.cap,D j r2.xs⟩:Row)=Row.on D j r2 from rfl,V6 hjk hr2] at HT1;have HB1:=za (HB.out.trans (hon.touch (List.mem_map_of_mem (List.mem_of_getElem? hr2))));clear hw40 hon H HB F HRO;refine ⟨⟨j+1,by omega,by omega,by go_num,HB1,HT1⟩,?_⟩;simp [intOf];omega
   ·obtain rfl:n=j:=by omega
    obtain ⟨R1,hR1⟩:=zc (yx (Row.on D) R (k+1) n);have hR1k:R1[k]?=some r:=by rw [←hR1,yt,hr,Option.map_some,if_neg (by omega)]
    have hR1g:R1.map Row.g=R.map Row.g:=by rw [←hR1];exact YQ
    rw [hR1] at HH HR2;clear hR1;go_wp2_with fail
    go_loopw [11,82] (fun u i wx=>∃j:Nat,j≤m∧i=.int .i64 j∧Hid (zD (R.map Row.g) wr wx)∧Hid (qy wx B (.slice (some ⟨vg,0,none⟩) n vc) (R1.set k ⟨r.g,r.cap,qT k r.xs j⟩) 0)) (fun u i _=>m-(intOf i).toNat)
    case atStart=>exact ⟨0,by omega,rfl,za (zD.refl _ _),za (by rw [zel,zeL hR1k];exact HH.out)⟩
    case round =>
     obtain ⟨j,hj,rfl,HB,HT⟩:=hrel;replace F:=za (F.out.touch HB.out);have hRk:(R1.set k ⟨r.g,r.cap,qT k r.xs j⟩)[k]?=some ⟨r.g,r.cap,qT k r.xs j⟩:=by rw [List.getElem?_set,if_pos rfl,if_pos (List.getElem?_eq_some_iff.1 hR1k).1]
     have hm:=HM.out;have hfl:(qT k r.xs j).length=c:=zaY (by omega) hrl
     have hRg:∀s,s∈R1.set k ⟨r.g,r.cap,qT k r.xs j⟩→s.g<g:=fun s hs=>F.out.gl _ (by
      rw [←hR1g];rcases List.mem_or_eq_of_mem_set hs with h|h
      ·exact List.mem_map_of_mem h
      ·rw [h];show r.g∈_;exact List.mem_map_of_mem (List.mem_of_getElem? hR1k))
     have H:=za (Off.mk0 F.out.le F.out.hiw (fun X hX=>HT.out.off (fun q e=>by cases e;exact hvl0) hRg X hX));clear HT
     by_cases hlt:j<m
     ·have hlt':(j:Int)<(m:Int):=by omega
      obtain ⟨a,ha⟩:∃a,(qT k r.xs j)[k+j]?=some a:=⟨_,List.getElem?_eq_getElem (by omega)⟩
      obtain ⟨b,hb9⟩:=zc (Num.of 0);rw [hb9] at C7;have HB9:=za hb9;clear hb9;obtain ⟨bbv,bl,bh,bb⟩:=b;dsimp only at C7;have p0:=(F.out.out.1.1.2).cell 0;have p1:=(F.out.out.1.1.2).cell 1;have p2:=(F.out.out.1.1.2).cell 2;have p3:=(F.out.out.1.1.2).cell 3;go_wp2_with fail;refine (C7.out _).mono ?_;rintro e w61 ⟨rfl,hb⟩;replace F:=zd F hb;replace H:=za (H.out.call hb);replace HB:=za (HB.out.call hb)
      clear hb p0 p1 p2 p3;obtain ⟨x0,x1,x2,x3⟩:=H.out.out.num hRk ha;have z0:=H.out.out.frozen hRk (k*4+j*4);have z1:=H.out.out.frozen hRk (k*4+j*4+1);have z2:=H.out.out.frozen hRk (k*4+j*4+2);have z3:=H.out.out.frozen hRk (k*4+j*4+3);simp only [Nat.add_mul] at x0 x1 x2 x3;dsimp only at x0 x1 x2 x3 z0 z1 z2 z3;go_wp2_with fail;have hon:=z7.set4 r.g (k*4+j*4) (k*4+j*4+1) (k*4+j*4+2) (k*4+j*4+3) w61 bbv bl bh bb
      have HT1:=za (H.out.out.upd hRk (ys:=(qT k r.xs j).set (k+j) ⟨bbv,bl,bh,bb⟩) (by simp) hon (zH.put_ (show zH w61 B (.slice (some ⟨r.g,0,none⟩) (qT k r.xs j).length r.cap) (qT k r.xs j) from H.out.out.rows _ (List.mem_of_getElem? hRk)) (k+j) (by omega) ⟨bbv,bl,bh,bb⟩ _ _ _ _ (by omega) (by omega) (by omega) (by omega)));have HB1:=za (HB.out.trans (hon.touch (show r.g∈R.map Row.g from List.mem_map_of_mem (List.mem_of_getElem? hr))))
      obtain ⟨wz,hwz⟩:=zc (((((w61.setCell ⟨r.g,k*4+j*4,none⟩ bbv).setCell ⟨r.g,k*4+j*4+1,none⟩ bl).setCell ⟨r.g,k*4+j*4+2,none⟩ bh).setCell ⟨r.g,k*4+j*4+3,none⟩ bb));rw [hwz] at HT1 HB1 ⊢;rw [←HB9.out,zfo (by omega),List.set_set] at HT1;clear hwz hon H HB F x0 x1 x2 x3 z0 z1 z2 z3;refine ⟨⟨j+1,by omega,by go_num,HB1,HT1⟩,?_⟩;simp [intOf];omega
     ·obtain rfl:m=j:=by omega
      obtain ⟨a,ha⟩:∃a,(qT k r.xs m)[k]?=some a:=⟨_,List.getElem?_eq_getElem (by omega)⟩
      obtain ⟨x0,x1,x2,x3⟩:=H.out.out.num hRk ha;have z0:=H.out.out.frozen hRk (k*4);have z1:=H.out.out.frozen hRk (k*4+1);have z2:=H.out.out.frozen hRk (k*4+2);have z3:=H.out.out.frozen hRk (k*4+3);dsimp only at x0 x1 x2 x3 z0 z1 z2 z3;have hlm:(0:Int)<(m:Int):=by omega
      have p0:=(F.out.out.1.1.2).cell 0;have p1:=(F.out.out.1.1.2).cell 1;have p2:=(F.out.out.1.1.2).cell 2;have p3:=(F.out.out.1.1.2).cell 3;go_wp2_with fail;have hon:=z7.set4 r.g (k*4) (k*4+1) (k*4+2) (k*4+3) wr pv pl ph pb;have HT1:=H.out.out.upd hRk (ys:=(qT k r.xs m).set k ⟨pv,pl,ph,pb⟩) (by simp) hon (zH.put (show zH wr B (.slice (some ⟨r.g,0,none⟩) (qT k r.xs m).length r.cap) (qT k r.xs m) from H.out.out.rows _ (List.mem_of_getElem? hRk)) k (by omega) ⟨pv,pl,ph,pb⟩)
      have HB1:=F.out.out.1.1.1.trans (hon.touch (show r.g∈R.map Row.g from List.mem_map_of_mem (List.mem_of_getElem? hr)));rw [List.set_set,HR2.out] at HT1
      go_end0
      exact ⟨rfl,HT1,HB1⟩
end
theorem Xag {P:Prop} (h:P:=by
 obtain ⟨x0,x1,x2,x3⟩:=X.out.four;have e0:=H.out.box.cell 0;gi_wp2_with (gi_at_builtin;refine qC (yp _) rfl rfl (fun K hK=>?_);refine jZ (.tmp 46) (.tmp 48) rfl V0.heap.size v L ⟨yv,yl,yh,yb⟩ _ rfl (H.out.own.alloc _) rfl (At.new' (by simp)) HLL.out (by have:=H.out.kb.size;simp at this ⊢;omega) ?_;intro g1 cc1 w9 hown hgrow hat hg1;refine hK _ _ ?_;clear hK K;have H9:=za (H.out.app hS hSo hhV hown hgrow);have KF9:=za (H.out.keeps (u:=.slice (some ⟨g1,0,none⟩) (L.length+1) cc1) KF.out hgrow);have HR9:=za (H.out.other (u:=.slice (some ⟨g1,0,none⟩) (L.length+1) cc1) hgrow HR.out HQ.out hqh);have HQ9:=za (show (Value.slice (some ⟨g1,0,none⟩) (L.length+1) cc1).ownBlock≠some q from fun e=>by cases e;rcases hat with e|e;exact HQ.out e;have:=(World.ownsRow.lt HR.out g1 rfl).2;simp at e this;omega);have e9:=((H.out.box.alloc _).grown hgrow (jP H.out.own hhV)).cell 0;have z9:=((H.out.box.alloc _).grown hgrow (jP H.out.own hhV)).frozen 0;clear hown hgrow hat hg1 e0 x0 x1 x2 x3)
 rw [←HT.out] at H9;refine ⟨⟨k+1,_,by omega,by go_num,H9,KF9,HR9,HQ9⟩,?_⟩;simp [intOf];omega) : P := h
section
attribute [local go_sem] Oper.semAt_some ve
theorem jD.app {S:Nat→Prop} {V0 W w9:World} {h g1 cc1:Nat} {L:List Num} {v:Value} {y:Num} {o:Obj} (H:jD S V0 h L v W) (hS:∀k,S k→k<V0.heap.size) (hSo:¬S h) (hh:h<V0.heap.size)
  (hown:zH w9 V0.heap.size (.slice (some ⟨g1,0,none⟩) (L.length+1) cc1) (L++[y])) (hgr:(W.alloc o).grownBy w9 v.ownBlock):jD S V0 h (L++[y]) (.slice (some ⟨g1,0,none⟩) (L.length+1) cc1) (w9.setCell ⟨h,0,none⟩ (.slice (some ⟨g1,0,none⟩) (L.length+1) cc1)):=by
 have hrow:∀k,v.ownBlock=some k→¬S k:=fun k e hk=>by have:=(World.ownsRow.lt H.own k e).1;have:=hS k hk;omega
 have h1:=(World.ownsRow.lt hown g1 rfl).1;exact ⟨((H.box.alloc o).grown hgr (jP H.own (by omega))).set 0 _ rfl,hown.kept (jv w9 h 0 _) (.inr (by simp [Value.ownBlock];omega)),((H.kb.call hS ((Below.refl _ _).alloc (Nat.le_refl _) o)).grown hS hgr hrow).set hSo _ _⟩
theorem jD.keeps {S:Nat→Prop} {V0 W2 W w9:World} {h B:Nat} {L:List Num} {v u:Value} {o:Obj} (H:jD S V0 h L v W) (KF:KeepsFrom B W2 W) (hgr:(W.alloc o).grownBy w9 v.ownBlock):KeepsFrom B W2 (w9.setCell ⟨h,0,none⟩ u) :=
 ((KF.trans (zB ((Below.refl _ _).alloc (Nat.le_refl _) o))).trans (jF (H.own.alloc o) hgr)).trans (zV _ _ _ _)
theorem jD.other {S:Nat→Prop} {V0 W w9:World} {h q n c B:Nat} {L:List Num} {v u:Value} {o:Obj} {xs:List Num} (H:jD S V0 h L v W) (hgr:(W.alloc o).grownBy w9 v.ownBlock) (hx:zH W B (.slice (some ⟨q,0,none⟩) n c) xs) (hv:v.ownBlock≠some q) (hq:q≠h):zH (w9.setCell ⟨h,0,none⟩ u) B (.slice (some ⟨q,0,none⟩) n c) xs :=
 vZ hx (fun k e=>by cases e;rw [qF hq];exact (hgr.block q (by simp;have:=(World.ownsRow.lt hx q rfl).2;omega) (fun e=>hv e.symm)).trans (Below.heap_alloc W o q (World.ownsRow.lt hx q rfl).2))
theorem jD.far4 {S:Nat→Prop} {V0 W:World} {h b:Nat} {L:List Num} {v:Value} (H:jD S V0 h L v W) (hS:∀k,S k→k<V0.heap.size) (hh:h<V0.heap.size) (hb:V0.heap.size≤b) (hv:v.ownBlock≠some b) (x y z u:Value):jD S V0 h L v ((((W.setCell ⟨b,0,none⟩ x).setCell ⟨b,1,none⟩ y).setCell ⟨b,2,none⟩ z).setCell ⟨b,3,none⟩ u):=by
 have ho:=z7.set4 b 0 1 2 3 W x y z u;have hSb:¬S b:=fun hk=>by have:=hS b hk;omega
 exact ⟨ho.at_ H.box (by omega),ho.own H.own hv,(((H.kb.set hSb _ _).set hSb _ _).set hSb _ _).set hSb _ _⟩
def zbN (n:Nat) (l:List Num) (i k:Nat):Num:=if k≤i∧(atM n l k k).sign<0 then (atM n l i k).neg else atM n l i k
def yQ (n:Nat) (l:List Num) (i j:Nat):List Num:=(List.range j).map (zbN n l i)
def Zi (n:Nat) (l:List Num) (i:Nat):List Num:=(List.range i).flatMap fun p=>yQ n l p n
def zab (n:Nat) (l:List Num):List Num:=Zi n l n
theorem zdQ (n:Nat) (l:List Num) (i j:Nat):yQ n l i (j+1)=yQ n l i j++[zbN n l i j]:=by unfold yQ;rw [List.range_succ];simp
theorem zaL (n:Nat) (l:List Num) (i j:Nat):(yQ n l i j).length=j:=by simp [yQ]
theorem zaK (n:Nat) (l:List Num) (i:Nat):Zi n l (i+1)=Zi n l i++yQ n l i n:=by unfold Zi;rw [List.range_succ,List.flatMap_append];simp
theorem zbM (n:Nat) (l:List Num) (i:Nat):(Zi n l i).length=i*n:=by
 induction i with
 | zero=>simp [Zi]
 | succ i ih=>rw [zaK,List.length_append,ih,zaL,Nat.add_mul,Nat.one_mul]
theorem zhH {r c:Nat} {l:List Num} (h:zt r c l) {i k:Nat} (hi:i<r) (hk:k<c):(qz c l i)[k]?=some (atM c l i k):=by
 have hlt:i*c+k<l.length:=by rw [h.len];exact zgo hi hk
 unfold qz atM;rw [List.getElem?_take_of_lt hk,List.getElem?_drop,List.getD_eq_getElem?_getD,List.getElem?_eq_getElem hlt];rfl
theorem zt.signs {n:Nat} {l:List Num} (h:zt n n l):zt n n (zab n l):=⟨h.r1,h.r2,h.c1,h.c2,zbM n l n⟩
theorem zfi (n : Nat) (A : Option Addr) (m cp : Nat) (l : List Num) (hs : zt n n l) (w : World) (hl : zk w A m cp l) : Calls Tryz.prog 173 #[zE n n A m cp] w (qM n n (zab n l) w) := by
 have hu := Tryz.underlying65;have hu1 := Tryz.underlying71;have hu2 := Tryz.underlying63;have R := za (show ∀ W, Calls Tryz.prog 119 #[zE n n A m cp] W fun e w' => e = .returned (.bool true) ∧ Below W.heap.size W w' from fun W => by have := qI n n A m cp W; rw [hs.right hl.1] at this; exact this);have AL := za (fun W => vT n n A m cp W);have AT := za (fun (i k : Nat) (hi : i < n) (hk : k < n) (W : World) (h : zk W A m cp l) => zd4 n n A m cp l hs i k hi hk W h)
 have NW := za (fun (Q : Option Addr) (a b : Nat) (W : World) (h : zk W Q a b (zab n l)) => vE n n Q a b _ hs.signs W h);have HL := za hl;have hr16 := hs.r2;clear hl;unfold zE at R AL AT NW;unfold zE;refine (callsIn_wide (n := 9)).1 ?_;refine callsIn_of_wp_marks Tryz.func173 rfl trivial ?_ rfl;simp only [Tryz.ntmps173, List.size_toArray, List.length_cons, List.length_nil, Nat.reduceAdd, Nat.reduceSub, Array.replicate_succ, Array.replicate_zero, List.push_toArray, List.append_toArray, List.nil_append, List.cons_append]
 gi_wp2_with fail;obtain ⟨W0, hW0⟩ := zc (((w.alloc (.cells #[.int .i64 (n : Int), .int .i64 (n : Int), .slice A m cp] 65)).alloc (.cells #[.int .i64 0, .int .i64 0, .slice none 0 0] 65)));obtain ⟨bx, b0, hsz⟩ := y7 hW0;rw [hW0];clear hW0;have F := za ((Off.start b0 hsz).argN b0 (HL.out));have BX := za bx;clear bx b0 hsz;obtain ⟨g, hg⟩ := zc (w.heap.size);rw [hg] at F BX
 try simp only [hg]
 refine (zw 8 (R.out W0)).mono ?_;rintro e w1 ⟨rfl, hb⟩;replace F := zd F hb;replace BX := ze BX hb;clear hb;have p0 := (BX.out.1).cell 0;have p1 := (BX.out.1).cell 1;have p2 := (BX.out.1).cell 2;have q0 := ((BX.out.1).alloc (.cells #[.slice none 0 0] 63)).cell 0;have q1 := ((BX.out.1).alloc (.cells #[.slice none 0 0] 63)).cell 1;have q2 := ((BX.out.1).alloc (.cells #[.slice none 0 0] 63)).cell 2;gi_wp2_with fail
 refine (zw 8 (AL.out _)).mono ?_;rintro e w2 ⟨rfl, rfl⟩;clear p0 p1 p2 q0 q1 q2;replace F := za F.out.now;obtain ⟨V0, hV0⟩ := zc (((w1.alloc (.cells #[.slice none 0 0] 63)).alloc (.cells #[.int .i64 (n : Int), .int .i64 (n : Int), .slice A m cp] 65)));obtain ⟨bx, b0, hsz⟩ := y7 hV0;rw [hV0];have lh := F.out.hiw;simp only [World.size_alloc];replace F := zd F b0;replace BX := ze BX b0;have LB := za bx.1
 have AM := za bx.2.1;obtain ⟨h, hh⟩ := zc (w1.heap.size);rw [hh] at F lh LB AM hsz
 try simp only [hh]
 clear bx b0 hh hV0;obtain ⟨S, hSd⟩ : ∃ S : Nat → Prop, S = fun k => k < V0.heap.size ∧ k ≠ h := ⟨_, rfl⟩
 have hS : ∀ k, S k → k < V0.heap.size := fun k h => by rw [hSd] at h; exact h.1
 have hSo : ¬ S h := fun h => by rw [hSd] at h; exact h.2 rfl
 have hSi : ∀ k, k < V0.heap.size → k ≠ h → S k := fun k h1 h2 => by rw [hSd]; exact ⟨h1, h2⟩
 clear hSd;gi_wp2_with fail;have hSN : ∀ q, q < h → q < g ∨ g + 2 ≤ q → q ∉ ([] : List Nat) → S q := fun q h1 _ _ => hSi q (by omega) (by omega)
 refine jS rfl (by decide) (gf := 124) (lb := #[.pointer (some ⟨h + 1, 0, none⟩)]) rfl trivial yw
  (y9 6 S (h + 1) n n A m cp l hs V0 (hSi _ (by omega) (by omega)) AM.out (fun W' q => (F.out.kb (q) hSN).out.2)) (fun s W0 args s' W1 h => (V3.size _ _ _ _ _ h).trans rfl)
  (fun i W => ∃ v, jD S V0 h (Zi n l i) v W) (fun _ _ ⟨_, k⟩ => k.kb) (fun _ _ _ _ ⟨v, k⟩ hgr hr => ⟨v, k.grown hS hgr hr⟩) (fun _ _ _ ⟨v, k⟩ hb => ⟨v, k.below hS hb⟩)
  ⟨.slice none 0 0, LB.out, zH.nil_ _ _, KB.refl S V0⟩ ?round ?done
 case round =>
  rintro lp i i' args V1 V2 hlp ⟨v, hv⟩ ⟨rl, hrl⟩ hb ⟨hir, rfl, row, rfl, hrow⟩;have H1 := za (hv.below hS hb);have HR := za hrow;have hvu : ∀ q, v.ownBlock = some q → q < V1.heap.size := fun q e => (World.ownsRow.lt hv.own q e).2;have hV01 := hv.kb.size;obtain ⟨ra, rn, rc, rfl⟩ := zS hrow;clear hv hrow hrl hb;gi_wp2_with fail;refine ⟨KeepsFrom.refl _ _, fun W2 hgr ho _ => ?_⟩;have H := za (H1.out.grown hS hgr (fun r e => by cases e; exact ⟨hlp, ho⟩))
  have HR2 := za (j7 HR.out hgr (fun r e => by cases e; exact ho));have hrn : n = rn := by have := zL HR.out; rw [qj hs hir] at this; exact this.symm
  subst hrn;clear hgr ho H1 HR;obtain ⟨q, rc', e, hq1, hq2, _⟩ := qk HR2.out (by rw [qj hs hir]; exact hs.r1);rw [qj hs hir] at e;cases e;have hvq : v.ownBlock ≠ some q := fun e => by have := hvu q e; omega
  have hnI : (i : Int) < (n : Int) := by omega
  have hhV : h < V0.heap.size := by omega
  have hqh : q ≠ h := by have := (World.ownsRow.lt HR2.out q rfl).1; omega
  gi_wp2_with fail
  gi_loopw [7, 8, 26] (fun _ _ z wr => ∃ (k : Nat) (v : Value), k ≤ n ∧ z = .int .i64 k ∧ Hid (jD S V0 h (Zi n l i ++ yQ n l i k) v wr) ∧ Hid (KeepsFrom V0.heap.size W2 wr) ∧ Hid (zH wr V1.heap.size (.slice (some ⟨q, 0, none⟩) n rc) (qz n l i)) ∧ Hid (v.ownBlock ≠ some q)) (fun _ _ z _ => n - (intOf z).toNat)
  case atStart => exact ⟨0, v, by omega, rfl, by simpa [yQ] using H, za (KeepsFrom.refl _ _), HR2, za hvq⟩
  case round =>
   obtain ⟨k, v, hk, rfl, H, KF, HR, HQ⟩ := hrel
   by_cases hlt : k < n
   ·have hkI : (k : Int) < (n : Int) := by omega
    have hxk : (qz n l i)[k]? = some (atM n l i k) := zhH hs hir hlt;obtain ⟨x, hx⟩ := zc (atM n l i k);rw [hx] at hxk;obtain ⟨x0, x1, x2, x3⟩ := HR.out.num hxk;obtain ⟨y, hy⟩ := zc (zbN n l i k);have HT := za (show Zi n l i ++ yQ n l i (k + 1) = Zi n l i ++ yQ n l i k ++ [y] by rw [zdQ, hy, List.append_assoc])
    have HLL := za (show (Zi n l i ++ yQ n l i k).length ≤ 1000 by
     rw [List.length_append, zbM, zaL];have := Nat.mul_le_mul (Nat.le_trans (Nat.le_of_lt hir) hr16) hr16;omega)
    obtain ⟨L, hL⟩ := zc (Zi n l i ++ yQ n l i k);rw [hL] at H HT HLL;obtain ⟨yv, yl, yh, yb⟩ := y;obtain ⟨xv, xl, xh, xb⟩ := x;dsimp only at x0 x1 x2 x3;have hF : ∀ W, KB S V0 W → Off [] g (g + 2) h (fun X => Below g w X ∧ zk X A m cp l) W := fun W kb => F.out.kb kb hSN;have hMB : ∀ W, KB S V0 W → At W g 65 #[.int .i64 (n : Int), .int .i64 (n : Int), .slice A m cp] := fun W kb => (BX.out.kb kb (fun q h1 h2 => hSi q (by simp at h2; omega) (by simp at h2; omega))).1
    clear hL
    by_cases hki : k ≤ i
    ·have hkiI : (k : Int) ≤ (i : Int) := by omega
     obtain ⟨d, hd⟩ := zc (atM n l k k);have C1 := za (fun W h => AT.out k k hlt hlt W h);have C2 := za (fun W => zfq d W);rw [hd] at C1;obtain ⟨dv, dl, dh, db⟩ := d;unfold Num.val at C1 C2;dsimp only at C1 C2;have hm1 := fun W => zdj dv dl dh db W;have KBX := H.out.kb.call hS ((Below.refl _ wr).alloc (Nat.le_refl _) (.cells #[xv, xl, xh, xb] 71));obtain ⟨q0, q1, q2⟩ := (hMB _ KBX).three;gi_wp2_with fail
     refine CallsIn.inRound lp ((zw 6 (C1.out _ (hF _ KBX).out.2)).mono ?_);rintro e w3 ⟨rfl, hb3⟩;obtain ⟨bx, hbx⟩ := zc (wr.heap.size);have hbV : V0.heap.size ≤ bx := by rw [← hbx]; exact H.out.kb.size
     have hvb : v.ownBlock ≠ some bx := fun e => by have := (World.ownsRow.lt H.out.own _ e).2; omega
     have hqb : q ≠ bx := by have := (World.ownsRow.lt HR.out q rfl).2; omega
     have X := za ((At.new wr 71 #[xv, xl, xh, xb]).below hb3);replace H := za ((H.out.below hS ((Below.refl _ wr).alloc (Nat.le_refl _) _)).below hS hb3);replace KF := za ((KF.out.trans (zB ((Below.refl _ wr).alloc (Nat.le_refl _) _))).trans (zB hb3));replace HR := za ((HR.out.below ((Below.refl _ wr).alloc (Nat.le_refl _) _)).below hb3);rw [hbx] at X;simp only [hbx];clear hb3 KBX q0 q1 q2;gi_wp2_with fail
     refine CallsIn.inRound lp ((zw 6 (C2.out w3)).mono ?_);rintro e w4 ⟨rfl, hb3⟩;replace X := za (X.out.below hb3);replace H := za (H.out.below hS hb3);replace KF := za (KF.out.trans (zB hb3));replace HR := za (HR.out.below hb3);clear hb3
     by_cases hsg : Num.sign ⟨dv, dl, dh, db⟩ < 0
     ·have C3 := za (fun W => zhf ⟨xv, xl, xh, xb⟩ W)
      have hyy : Num.neg ⟨xv, xl, xh, xb⟩ = ⟨yv, yl, yh, yb⟩ := by rw [← hy]; unfold zbN; rw [hd, if_pos ⟨hki, hsg⟩, hx]
      rw [hyy] at C3;unfold Num.val at C3;dsimp only at C3;have hm2 := fun W => ze2 xv xl xh xb W;obtain ⟨x0, x1, x2, x3⟩ := X.out.four;gi_wp2_with fail;refine CallsIn.inRound lp ((zw 6 (C3.out w4)).mono ?_);rintro e w5 ⟨rfl, hb3⟩;clear x0 x1 x2 x3;replace X := za (X.out.below hb3);replace H := za (H.out.below hS hb3);replace KF := za (KF.out.trans (zB hb3));replace HR := za (HR.out.below hb3);clear hb3
      obtain ⟨x0, x1, x2, x3⟩ := X.out.four;have zx0 := X.out.frozen 0;have zx1 := X.out.frozen 1;have zx2 := X.out.frozen 2;have zx3 := X.out.frozen 3;replace H := za (H.out.far4 hS hhV hbV hvb yv yl yh yb);replace KF := za ((((KF.out.trans (zV _ _ ⟨bx, 0, none⟩ yv)).trans (zV _ _ ⟨bx, 1, none⟩ yl)).trans (zV _ _ ⟨bx, 2, none⟩ yh)).trans (zV _ _ ⟨bx, 3, none⟩ yb));replace HR := za ((z7.set4 bx 0 1 2 3 w5 yv yl yh yb).own HR.out (fun e => by cases e; exact hqb rfl))
      replace X := za (X.out.set4 yv yl yh yb);exact Xag
     ·have hyy : (⟨xv, xl, xh, xb⟩ : Num) = ⟨yv, yl, yh, yb⟩ := by rw [← hy]; unfold zbN; rw [if_neg (fun h => hsg (by rw [← hd]; exact h.2)), hx]
      cases hyy;exact Xag
    ·have hyy : (⟨xv, xl, xh, xb⟩ : Num) = ⟨yv, yl, yh, yb⟩ := by rw [← hy]; unfold zbN; rw [if_neg (fun h => hki h.1), hx]
     cases hyy;have hkiI : ¬ (k : Int) ≤ (i : Int) := by omega
     have X := za (At.new wr 71 #[yv, yl, yh, yb]);replace H := za (H.out.below hS ((Below.refl _ wr).alloc (Nat.le_refl _) (.cells #[yv, yl, yh, yb] 71)));replace KF := za (KF.out.trans (zB ((Below.refl _ wr).alloc (Nat.le_refl _) (.cells #[yv, yl, yh, yb] 71))));replace HR := za (HR.out.below ((Below.refl _ wr).alloc (Nat.le_refl _) (.cells #[yv, yl, yh, yb] 71)));exact Xag
   ·obtain rfl : n = k := by omega
    rw [← zaK] at H;gi_wp2_with fail;exact ⟨KF.out, v, H.out⟩
 case done =>
  rintro D i' W hD hrr ⟨v, hv⟩ hK;rw [show i' = n from hrr] at hv;obtain ⟨Q1, n1, c1, rfl⟩ := zS hv.own;have H := za hv;have hDg : g + 2 ≤ D := by omega
  replace BX := za (BX.out.kb hv.kb (fun q h1 h2 => hSi q (by simp at h2; omega) (by simp at h2; omega)));replace F := za (((F.out.kb hv.kb hSN).plus (zgY hK (by omega) (by simp))).plus (hv.own.nums.off_ (fun b o e _ => ⟨.inr (by have := zY hv.own b o e; omega), by simp⟩)));have e0 := H.out.box.cell 0;have q0 := (BX.out.1).cell 0;have q1 := (BX.out.1).cell 1;have q2 := (BX.out.1).cell 2;have r0 := (BX.out.2.1).cell 0
  have zr0 := (BX.out.2.1).frozen 0;have r1 := (BX.out.2.1).cell 1;have zr1 := (BX.out.2.1).frozen 1;have r2 := (BX.out.2.1).cell 2;have zr2 := (BX.out.2.1).frozen 2;gi_wp2_with fail;refine (zw 8 (NW.out Q1 n1 c1 _ F.out.out.2)).mono ?_;rintro e w51 ⟨Q4, n4, c4, rfl, hq, hb, hfr⟩;unfold zE;have fN4 : ∀ b o, Q4 = some ⟨b, o, none⟩ → g + 2 ≤ b := fun b o e => Nat.le_trans F.out.hiw (hfr b o e);replace F := za (F.out.gotN hb hq hfr)
  replace BX := ze BX hb;clear hb hq hfr e0 q0 q1 q2 r0 zr0 r1 zr1 r2 zr2;have r0 := (BX.out.2.1).cell 0;have zr0 := (BX.out.2.1).frozen 0;have r1 := (BX.out.2.1).cell 1;have zr1 := (BX.out.2.1).frozen 1;have r2 := (BX.out.2.1).cell 2;have zr2 := (BX.out.2.1).frozen 2;gi_wp2_with fail;have F9 := F.out.set3 (g := g + 1) (.inl (by omega)) (.int .i64 (n : Int)) (.int .i64 (n : Int)) (.slice Q4 n4 c4)
  have K9 := F9.out.1.1.2;obtain ⟨d0, d1, d2⟩ := (qf ((BX.out.2.1).set3 (.int .i64 (n : Int)) (.int .i64 (n : Int)) (.slice Q4 n4 c4)) (grownBy_putObj' _ D (.deferred none)) (fun r e => by cases e; exact ⟨_, K9, rfl⟩)).three;refine ⟨by simp, .inl ⟨_, _, rfl, run_takeDeferred K9, ?_⟩⟩;exact ⟨.tuple #[.agg #[.int .i64 (n : Int), .int .i64 (n : Int), .slice Q4 n4 c4], .bool true], (by simp only [results, Tryz.results173]; simp [go_sem, d0, d1, d2]), Q4, n4, c4, rfl, yf F9.out.2 (.deferred none) K9 rfl, by rw [hg]; exact qu F9.out.1.1.1.1 (Nat.le_trans F9.le F9.hiw) (by omega) _, fun b o e => by rw [hg]; have := fN4 b o e; omega⟩
end
end Go.Proofs.YtcoiklclbljjeaaGreatDoor.L
