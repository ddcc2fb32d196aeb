/- Lemmas of the card's proof. -/
import Derived.Lib.AppendZeros
import Derived.Test.YtcoiklclbljjeaaGreatDoorM25
set_option linter.unusedVariables false
set_option linter.unusedSimpArgs false
set_option maxRecDepth 100000
set_option maxHeartbeats 16000000
namespace Go.Proofs.YtcoiklclbljjeaaGreatDoor.L
open Go.RowKit
theorem XbI {P:Prop} (h:P:=by
 cases R[i]? with
 | none=>rfl
 | some r=>by_cases h:j≤i∧i<k<;>simp [h,Row.on]) : P := h
section
attribute [local go_sem] Oper.semAt_some
def yx {α:Type} (f:Nat→α→α) (l:List α) (j k:Nat):List α:=l.mapIdx fun i x=>if j≤i∧i<k then f i x else x
section
variable {α:Type} {f:Nat→α→α} {l:List α} {j k:Nat}
theorem ZB:(yx f l j k).length=l.length:=by unfold yx;simp
theorem yt (i:Nat):(yx f l j k)[i]?=l[i]?.map fun x=>if j≤i∧i<k then f i x else x:=by unfold yx;rw [List.getElem?_mapIdx]
theorem YP:yx f l j j=l:=by
 apply List.ext_getElem?;intro i;rw [yt,show (fun x=>if j≤i∧i<j then f i x else x)=id from funext fun x=>if_neg (by omega)];simp
theorem zdM:(yx f l j k)[k]?=l[k]?:=by
 rw [yt,show (fun x=>if j≤k∧k<k then f k x else x)=id from funext fun x=>if_neg (by omega)];simp
theorem V6 {x:α} (hj:j≤k) (h:l[k]?=some x):(yx f l j k).set k (f k x)=yx f l j (k+1):=by
 apply List.ext_getElem?;intro i;have hk:k<l.length:=(List.getElem?_eq_some_iff.1 h).1;rw [List.getElem?_set,yt,yt]
 by_cases e:k=i
 ·subst e
  rw [if_pos rfl,ZB,if_pos hk,h];simp [hj]
 ·rw [if_neg e]
  congr 1
  funext x
  have:(j≤i∧i<k)↔(j≤i∧i<k+1):=by omega
  simp only [this]
end
def Qp (j:Nat) (d c:Num) (E:List Num) (i:Nat) (xs:List Num):List Num:=xs.set j (((xs.getD j qe).mul d).sub ((E.getD i qe).mul c))
def zis (j:Nat) (w:Num) (X:List (List Num)) (i:Nat) (e:Num):Num:=e.add (((X.getD i []).getD j qe).mul w)
def Row.on (f:Nat→List Num→List Num) (i:Nat) (r:Row):Row:=⟨r.g,r.cap,f i r.xs⟩
theorem YQ {f:Nat→List Num→List Num} {R:List Row} {j k:Nat}:(yx (Row.on f) R j k).map Row.g=R.map Row.g:=by
 apply List.ext_getElem?;intro i;rw [List.getElem?_map,List.getElem?_map,yt];exact XbI
theorem zgQ {f:Nat→List Num→List Num} {R:List Row} {j k:Nat}:(yx (Row.on f) R j k).map Row.xs=yx f (R.map Row.xs) j k:=by
 apply List.ext_getElem?;intro i;rw [List.getElem?_map,yt,yt,List.getElem?_map];exact XbI
theorem Zp {α:Type} {l:List α} {i:Nat} {x d:α} (h:l[i]?=some x):l.getD i d=x:=by rw [List.getD_eq_getElem?_getD,h];rfl
def zfz (a b:Num):Num:=(a.div b).root
def zfA (w a b:Num):Num:=w.div ((a.mul b).root)
theorem zeN (n j:Nat) (R:List Row) (E:List Num) (vg vc eg ec B:Nat) (x a b:Num) (hn:n≤4) (hR:R.length=n) (hrow:∀r,r∈R→r.xs.length=n) (hE:E.length=n) (hj:j<n) (w:World)
  (hT:qy w B (.slice (some ⟨vg,0,none⟩) n vc) R 0) (hO:zH w B (.slice (some ⟨eg,0,none⟩) n ec) E) (hne:∀r,r∈R→r.g≠eg) (hve:vg≠eg) :
  Calls Tryz.prog 160 #[.slice (some ⟨vg,0,none⟩) n vc,.int .i64 (j:Int),x.val,a.val,b.val,.slice (some ⟨eg,0,none⟩) n ec] w fun e w'=>e=.returned (.tuple #[])∧qy w' B (.slice (some ⟨vg,0,none⟩) n vc) (yx (Row.on (Qp j (zfz a b) (zfA x a b) E)) R j n) 0∧zH w' B (.slice (some ⟨eg,0,none⟩) n ec) (yx (zis j x (R.map Row.xs)) E j n)∧zD (eg::R.map Row.g) w w':=by
 have hu:=Tryz.underlying71;have hu1:=Tryz.underlying63;have hu2:=Tryz.underlying131;obtain ⟨p,hp⟩:=zc (a.div b);obtain ⟨d,hd⟩:=zc (p.root);obtain ⟨q,hq⟩:=zc (a.mul b);obtain ⟨s,hs⟩:=zc (q.root);obtain ⟨c,hc⟩:=zc (x.div s);have C1:=za (fun W=>VH a b W);have C2:=za (fun W=>zck p W);have C3:=za (fun W=>Jb a b W);have C4:=za (fun W=>zck q W);have C5:=za (fun W=>VH x s W)
 rw [hp] at C1;rw [hd] at C2;rw [hq] at C3;rw [hs] at C4;rw [hc] at C5;rw [show zfz a b=d by unfold zfz;rw [hp,hd],show zfA x a b=c by unfold zfA;rw [hq,hs,hc]];obtain ⟨D,hD⟩:=zc (Qp j d c E);obtain ⟨De,hDe⟩:=zc (zis j x (R.map Row.xs));rw [hD,hDe];have HDD:=za hD;have HDE:=za hDe;have HVE:=za hve;have HT:=za hT;have HO:=za hO;clear hD hDe hve hT hO hp hd hq hs hc;obtain ⟨pv,pl,ph,pb⟩:=p
 obtain ⟨dv,dl,dh,db⟩:=d;obtain ⟨qv,ql,qh,qb⟩:=q;obtain ⟨sv,sl,sh,sb⟩:=s;obtain ⟨cv,cl,ch,cb⟩:=c;obtain ⟨xv,xl,xh,xb⟩:=x;obtain ⟨av,al,ah,ab⟩:=a;obtain ⟨bv,bl,bh,bb⟩:=b;unfold Num.val at C1 C2 C3 C4 C5;unfold Num.val;dsimp only at C1 C2 C3 C4 C5 ⊢;have hm1:=fun W=>JL av al ah ab W;have hm2:=fun W=>zah pv pl ph pb W;have hm3:=fun W=>Qy av al ah ab W;have hm4:=fun W=>zah qv ql qh qb W
 have hm5:=fun W=>JL xv xl xh xb W;go_enter Tryz.func160,Tryz.ntmps160;go_wp2_with fail;obtain ⟨W0,hW0⟩:=zc ((((w.alloc (.cells #[xv,xl,xh,xb] 71)).alloc (.cells #[av,al,ah,ab] 71)).alloc (.cells #[bv,bl,bh,bb] 71)));obtain ⟨bx,b0,hsz⟩:=Jq hW0;rw [hW0];clear hW0;have F:=za (Off.startG (G:=(eg::R.map Row.g)) (fun q hq=>by rcases List.mem_cons.1 hq with rfl|hq;exact (World.ownsRow.lt HO.out _ rfl).2;obtain ⟨r,hr,rfl⟩:=List.mem_map.1 hq;exact (ZE (HT.out.rows r hr)).2) b0 hsz)
 have BX:=za bx;have BB:=za b0;clear bx b0 hsz;obtain ⟨g,hg⟩:=zc (w.heap.size);rw [hg] at F BX
 try simp only [hg]
 have hvl:=(World.ownsRow.lt HT.out.box _ rfl).2;have hel:=(World.ownsRow.lt HO.out _ rfl).2;have H:=za (Off.mk0 (lo:=w.heap.size) (hi:=w.heap.size+3) (by omega) (by have:=F.out.hiw;omega) (fun X hX=>And.intro ((HT.out.below BB.out).off (fun q e=>by cases e;exact hvl) (fun r hr=>(ZE (HT.out.rows r hr)).2) X hX) ((HO.out.below BB.out).offl (fun q e=>by cases e;exact hel) X hX)))
 rw [hg] at H hvl hel;have x0:=(BX.out.1).cell 0;have x1:=(BX.out.1).cell 1;have x2:=(BX.out.1).cell 2;have x3:=(BX.out.1).cell 3;have a0:=(BX.out.2.1).cell 0;have a1:=(BX.out.2.1).cell 1;have a2:=(BX.out.2.1).cell 2;have a3:=(BX.out.2.1).cell 3;have c0:=(BX.out.2.2.1).cell 0;have c1:=(BX.out.2.2.1).cell 1;have c2:=(BX.out.2.2.1).cell 2;have c3:=(BX.out.2.2.1).cell 3;replace F:=za F.out.now
 replace H:=za H.out.now;have hstart:=F.out.hiw;refine zG [] (.rd (i:=0) rfl (.rd (i:=1) rfl (.rd (i:=2) rfl (.rd (i:=6) rfl (.rd (i:=7) rfl (.rd (i:=8) rfl (.rd (i:=9) rfl (.rd (i:=10) rfl (.tl (i:=3) rfl (.rd (i:=4) rfl (.tl (i:=5) rfl (.tl (i:=11) rfl (.rd (i:=12) rfl (.tl (i:=13) rfl (.tl (i:=14) rfl (.fl (i:=15) (st:=none) rfl rfl Jf (.fl (i:=16) (st:=none) rfl rfl Jf (.tl (i:=17) rfl (.tl (i:=18) rfl .nil))))))))))))))))))) (by kernel_rfl) (by kernel_rfl) (fun c a d v w h=>by cases d<;>exact h) (fun c a d v w h=>by cases d<;>exact h) (by simp) ?_
 have kx0:=fun x=>But.cell (G:=[]) x0 (by simp) x;have kx1:=fun x=>But.cell (G:=[]) x1 (by simp) x;have kx2:=fun x=>But.cell (G:=[]) x2 (by simp) x;have kx3:=fun x=>But.cell (G:=[]) x3 (by simp) x;have ka0:=fun x=>But.cell (G:=[]) a0 (by simp) x;have ka1:=fun x=>But.cell (G:=[]) a1 (by simp) x;have ka2:=fun x=>But.cell (G:=[]) a2 (by simp) x;have ka3:=fun x=>But.cell (G:=[]) a3 (by simp) x
 have kc0:=fun x=>But.cell (G:=[]) c0 (by simp) x;have kc1:=fun x=>But.cell (G:=[]) c1 (by simp) x;have kc2:=fun x=>But.cell (G:=[]) c2 (by simp) x;have kc3:=fun x=>But.cell (G:=[]) c3 (by simp) x;iterate 8 (refine zf ?_;go_big_quiet_step (fail);refine wpQuiet_nil ?_)
 clear kx0 kx1 kx2 kx3 ka0 ka1 ka2 ka3 kc0 kc1 kc2 kc3;refine zm rfl (fun w1 hb K hK=>?_);replace hb:=qi hb;go_simp;replace F:=zd F hb;replace H:=za (H.out.call hb);replace BX:=ze BX hb;clear hb;refine (C1.out _).mono ?_;rintro e w2 ⟨rfl,hb⟩;refine hK _ _ ((zC.refl _ _).call hb) ?_;clear hK K;replace F:=zd F hb;replace H:=za (H.out.call hb);replace BX:=ze BX hb;clear hb x0 x1 x2 x3 a0 a1 a2 a3 c0 c1 c2 c3
 refine zf ?_;go_big_quiet_step (fail);refine wpQuiet_nil ?_;refine zm rfl (fun w3 hb K hK=>?_);go_simp;replace F:=zd F hb;replace H:=za (H.out.call hb);replace BX:=ze BX hb;clear hb;refine (C2.out _).mono ?_;rintro e w4 ⟨rfl,hb⟩;refine hK _ _ ((zC.refl _ _).call hb) ?_;clear hK K;replace F:=zd F hb;replace H:=za (H.out.call hb);replace BX:=ze BX hb;clear hb;refine zm rfl (fun w5 hb K hK=>?_)
 go_simp;replace F:=zd F hb;replace H:=za (H.out.call hb);replace BX:=ze BX hb;clear hb;refine (C3.out _).mono ?_;rintro e w6 ⟨rfl,hb⟩;refine hK _ _ ((zC.refl _ _).call hb) ?_;clear hK K;replace F:=zd F hb;replace H:=za (H.out.call hb);replace BX:=ze BX hb;clear hb;refine zf ?_;go_big_quiet_step (fail);refine wpQuiet_nil ?_;refine zm rfl (fun w7 hb K hK=>?_);go_simp;replace F:=zd F hb
 replace H:=za (H.out.call hb);replace BX:=ze BX hb;clear hb;refine (C4.out _).mono ?_;rintro e w8 ⟨rfl,hb⟩;refine hK _ _ ((zC.refl _ _).call hb) ?_;clear hK K;replace F:=zd F hb;replace H:=za (H.out.call hb);replace BX:=ze BX hb;clear hb;refine zm rfl (fun w9 hb K hK=>?_);go_simp;replace F:=zd F hb;replace H:=za (H.out.call hb);replace BX:=ze BX hb;clear hb;refine (C5.out _).mono ?_
 rintro e w10 ⟨rfl,hb⟩;refine hK _ _ ((zC.refl _ _).call hb) ?_;clear hK K;replace F:=zd F hb;replace H:=za (H.out.call hb);replace BX:=ze BX hb;clear hb;refine zT (fun w11 bd hb hat lbd nbd=>?_)
 try simp at nbd
 replace F:=zd F hb;replace H:=za (H.out.call hb);replace BX:=ze BX hb;have D1:=za hat;clear hat hb;refine zT (fun w12 bc hb hat lbc nbc=>?_)
 try simp at nbc
 replace F:=zd F hb;replace H:=za (H.out.call hb);replace BX:=ze BX hb;replace D1:=za (D1.out.below hb);have D2:=za hat;clear hat hb;refine zm rfl (fun w13 hb K hK=>?_);replace F:=zd F hb;replace H:=za (H.out.call hb);replace BX:=ze BX hb;replace D1:=za (D1.out.below hb);replace D2:=za (D2.out.below hb);clear hb;have rr0:=(D1.out).cell 0;have zrr0:=(D1.out).frozen 0;have rr1:=(D1.out).cell 1
 have zrr1:=(D1.out).frozen 1;have rr2:=(D1.out).cell 2;have zrr2:=(D1.out).frozen 2;have rr3:=(D1.out).cell 3;have zrr3:=(D1.out).frozen 3;go_simp;refine hK _ _ (((((zC.refl _ _).set (.inl (by simp)) _ _).set (.inl (by simp)) _ _).set (.inl (by simp)) _ _).set (.inl (by simp)) _ _) ?_;clear hK K rr0  zrr0  rr1  zrr1  rr2  zrr2  rr3  zrr3;replace F:=za (F.out.set4 (g:=bd) (.inr (by omega)) dv dl dh db)
 replace H:=za (H.out.set4 (g:=bd) (.inr (by omega)) dv dl dh db);replace BX:=za (BX.out.far4 (show g+3≤bd by omega) dv dl dh db);replace D2:=za (D2.out.far4 (q:=bd) (by omega) dv dl dh db);replace D1:=za (D1.out.set4 dv dl dh db);obtain ⟨w14,hw14⟩:=zc (((((w13.setCell ⟨bd,0,none⟩ dv).setCell ⟨bd,1,none⟩ dl).setCell ⟨bd,2,none⟩ dh).setCell ⟨bd,3,none⟩ db));rw [hw14] at F BX D1 D2 H ⊢
 clear hw14;refine zJ rfl (fun w15 hb K hK=>?_);replace F:=zd F hb;replace H:=za (H.out.call hb);replace BX:=ze BX hb;replace D1:=za (D1.out.below hb);replace D2:=za (D2.out.below hb);clear hb;have rr0:=(D2.out).cell 0;have zrr0:=(D2.out).frozen 0;have rr1:=(D2.out).cell 1;have zrr1:=(D2.out).frozen 1;have rr2:=(D2.out).cell 2;have zrr2:=(D2.out).frozen 2;have rr3:=(D2.out).cell 3
 have zrr3:=(D2.out).frozen 3;go_simp;refine hK _ _ ?_;clear hK K rr0 zrr0 rr1 zrr1 rr2 zrr2 rr3 zrr3;replace F:=za (F.out.set4 (g:=bc) (.inr (by omega)) cv cl ch cb);replace H:=za (H.out.set4 (g:=bc) (.inr (by omega)) cv cl ch cb);replace BX:=za (BX.out.far4 (show g+3≤bc by omega) cv cl ch cb);replace D1:=za (D1.out.far4 (q:=bc) (by omega) cv cl ch cb);replace D2:=za (D2.out.set4 cv cl ch cb)
 obtain ⟨w16,hw16⟩:=zc (((((w15.setCell ⟨bc,0,none⟩ cv).setCell ⟨bc,1,none⟩ cl).setCell ⟨bc,2,none⟩ ch).setCell ⟨bc,3,none⟩ cb));rw [hw16] at F BX D1 D2 H ⊢;clear hw16;replace F:=za (F.out.plus (D1.out.off_ (.inr (by omega)) (F.out.out_G (by omega))));clear D1;replace F:=za (F.out.plus (D2.out.off_ (.inr (by omega)) (F.out.out_G (by omega))));clear D2;go_wp2_with fail;have hTO:=H.out.out
 have HTO:=za hTO;clear hTO H
 go_loopw [14] (fun i wr=>∃k:Nat,j≤k∧k≤n∧i=.int .i64 k∧Hid (zD (eg::R.map Row.g) w16 wr)∧Hid (qy wr B (.slice (some ⟨vg,0,none⟩) n vc) (yx (Row.on D) R j k) 0∧zH wr B (.slice (some ⟨eg,0,none⟩) n ec) (yx De E j k))) (fun i _=>n-(intOf i).toNat)
 case atStart=>exact ⟨j,Nat.le_refl _,by omega,rfl,za (zD.refl _ _),za (by rw [YP,YP];exact HTO.out)⟩
 case round =>
  obtain ⟨k,hjk,hk,rfl,HB,HH⟩:=hrel;replace F:=za (F.out.touch HB.out)
  by_cases hlt:k<n
  ·have hlt':(k:Int)<(n:Int):=by omega
   have hj':(j:Int)<(n:Int):=by omega
   obtain ⟨r,hr⟩:∃r,R[k]?=some r:=⟨_,List.getElem?_eq_getElem (by omega)⟩
   have hrl:=hrow r (List.mem_of_getElem? hr);obtain ⟨y,hy⟩:∃y,r.xs[j]?=some y:=⟨_,List.getElem?_eq_getElem (by omega)⟩
   obtain ⟨u,hu9⟩:∃u,E[k]?=some u:=⟨_,List.getElem?_eq_getElem (by omega)⟩
   have hRk:(yx (Row.on D) R j k)[k]?=some r:=by rw [zdM];exact hr
   have hEk:(yx De E j k)[k]?=some u:=by rw [zdM];exact hu9
   have t0:=HH.out.1.cell hRk;rw [hrl] at t0;obtain ⟨y0,y1,y2,y3⟩:=HH.out.1.num hRk hy;obtain ⟨yv,yl,yh,yb⟩:=y;dsimp only at y0 y1 y2 y3;obtain ⟨u0,u1,u2,u3⟩:=HH.out.2.num hEk;obtain ⟨uv,ul,uh,ub⟩:=u;dsimp only at u0 u1 u2 u3;obtain ⟨p,hp⟩:=zc (Num.mul ⟨yv,yl,yh,yb⟩ ⟨dv,dl,dh,db⟩);obtain ⟨q,hq⟩:=zc (Num.mul ⟨uv,ul,uh,ub⟩ ⟨cv,cl,ch,cb⟩);obtain ⟨s,hs⟩:=zc (p.sub q)
   obtain ⟨a,ha⟩:=zc (Num.mul ⟨yv,yl,yh,yb⟩ ⟨xv,xl,xh,xb⟩);obtain ⟨b,hb9⟩:=zc (Num.add ⟨uv,ul,uh,ub⟩ a);have K1:=za (fun W=>Jb ⟨yv,yl,yh,yb⟩ ⟨dv,dl,dh,db⟩ W);have K2:=za (fun W=>Jb ⟨uv,ul,uh,ub⟩ ⟨cv,cl,ch,cb⟩ W);have K3:=za (fun W=>Yk p q W);have K4:=za (fun W=>Jb ⟨yv,yl,yh,yb⟩ ⟨xv,xl,xh,xb⟩ W);have K5:=za (fun W=>Yl ⟨uv,ul,uh,ub⟩ a W);rw [hp] at K1
   rw [hq] at K2;rw [hs] at K3;rw [ha] at K4;rw [hb9] at K5;have HS:=za (show D k r.xs=r.xs.set j s by rw [←HDD.out];unfold Qp;rw [Zp hy,Zp hu9,hp,hq,hs]);have HBN:=za (show De k ⟨uv,ul,uh,ub⟩=b by rw [←HDE.out];unfold zis;rw [show (R.map Row.xs).getD k []=r.xs from Zp (by rw [List.getElem?_map,hr];rfl),Zp hy,ha,hb9]);clear hp hq hs ha hb9;obtain ⟨pv,pl,ph,pb⟩:=p;obtain ⟨qv,ql,qh,qb⟩:=q
   obtain ⟨sv,sl,sh,sb⟩:=s;obtain ⟨av,al,ah,ab⟩:=a;obtain ⟨bv,bl,bh,bb⟩:=b;unfold Num.val at K1 K2 K3 K4 K5;dsimp only at K1 K2 K3 K4 K5;have hm1:=fun W=>Qy yv yl yh yb W;have hm2:=fun W=>Qy uv ul uh ub W;have hm3:=fun W=>JJ pv pl ph pb W;have hm4:=fun W=>Qz uv ul uh ub W;have hRg:∀r,r∈yx (Row.on D) R j k→r.g<g:=fun r hr=>F.out.gl _ (List.mem_cons_of_mem _ (by rw [←YQ (f:=D) (R:=R) (j:=j) (k:=k)];exact List.mem_map_of_mem hr))
   have H:=za (Off.mk0 F.out.le F.out.hiw (fun X hX=>And.intro (HH.out.1.off (fun q e=>by cases e;exact hvl) hRg X hX) (HH.out.2.offl (fun q e=>by cases e;exact hel) X hX)));replace BX:=za (BX.out.touch HB.out F.out.gl);clear HH;go_wp2_with fail;obtain ⟨Xby_,hXby_⟩:=zc (wr.alloc (.cells #[yv,yl,yh,yb] 71));obtain ⟨bx,b0,hsz⟩:=z6 hXby_;rw [hXby_];have lby_:=F.out.hiw;replace F:=za (F.out.gotA b0 bx )
   replace H:=za (H.out.call b0);replace HB:=za (HB.out.call b0);replace BX:=ze BX b0;obtain ⟨by_,hby_⟩:=zc (wr.heap.size);rw [hby_] at F lby_
   try simp only [hby_]
   clear bx b0 hsz hby_ hXby_;have t0:=H.out.out.1.cell hRk;rw [hrl] at t0;obtain ⟨u0,u1,u2,u3⟩:=H.out.out.2.num hEk;dsimp only at u0 u1 u2 u3;have v0:=(F.out.out.2).cell 0;have v1:=(F.out.out.2).cell 1;have v2:=(F.out.out.2).cell 2;have v3:=(F.out.out.2).cell 3;have d0:=(F.out.out.1.1.2).cell 0;have d1:=(F.out.out.1.1.2).cell 1;have d2:=(F.out.out.1.1.2).cell 2;have d3:=(F.out.out.1.1.2).cell 3
   have c0:=(F.out.out.1.2).cell 0;have c1:=(F.out.out.1.2).cell 1;have c2:=(F.out.out.1.2).cell 2;have c3:=(F.out.out.1.2).cell 3;replace F:=za F.out.now;replace H:=za H.out.now;have hstart:=F.out.hiw;refine zG [] (.rd (i:=0) rfl (.rd (i:=1) rfl (.rd (i:=2) rfl (.rd (i:=3) rfl (.rd (i:=4) rfl (.rd (i:=5) rfl (.rd (i:=6) rfl (.rd (i:=7) rfl (.rd (i:=10) rfl (.rd (i:=11) rfl (.rd (i:=12) rfl (.rd (i:=13) rfl (.rd (i:=14) rfl (.rd (i:=15) rfl (.tl (i:=8) rfl (.rd (i:=9) rfl (.tl (i:=16) rfl (.tl (i:=17) rfl (.rd (i:=18) rfl (.tl (i:=19) rfl .nil)))))))))))))))))))) (by kernel_rfl) (by kernel_rfl) (fun c a d v w h=>by cases d<;>exact h) (fun c a d v w h=>by cases d<;>exact h) (by simp) ?_
   have kt0:=fun x=>But.cell (G:=[]) t0 (by simp) x;have ku0:=fun x=>But.cell (G:=[]) u0 (by simp) x;have ku1:=fun x=>But.cell (G:=[]) u1 (by simp) x;have ku2:=fun x=>But.cell (G:=[]) u2 (by simp) x;have ku3:=fun x=>But.cell (G:=[]) u3 (by simp) x;have kv0:=fun x=>But.cell (G:=[]) v0 (by simp) x;have kv1:=fun x=>But.cell (G:=[]) v1 (by simp) x;have kv2:=fun x=>But.cell (G:=[]) v2 (by simp) x
   have kv3:=fun x=>But.cell (G:=[]) v3 (by simp) x;have kd0:=fun x=>But.cell (G:=[]) d0 (by simp) x;have kd1:=fun x=>But.cell (G:=[]) d1 (by simp) x;have kd2:=fun x=>But.cell (G:=[]) d2 (by simp) x;have kd3:=fun x=>But.cell (G:=[]) d3 (by simp) x;have kc0:=fun x=>But.cell (G:=[]) c0 (by simp) x;have kc1:=fun x=>But.cell (G:=[]) c1 (by simp) x;have kc2:=fun x=>But.cell (G:=[]) c2 (by simp) x
   have kc3:=fun x=>But.cell (G:=[]) c3 (by simp) x;iterate 14 (refine zf ?_;go_big_quiet_step (fail);refine wpQuiet_nil ?_)
   clear kt0 ku0 ku1 ku2 ku3 kv0 kv1 kv2 kv3 kd0 kd1 kd2 kd3 kc0 kc1 kc2 kc3;refine zm rfl (fun w17 hb K hK=>?_);replace hb:=qi hb;go_simp;replace F:=zd F hb;replace H:=za (H.out.call hb);replace HB:=za (HB.out.call hb);replace BX:=ze BX hb;clear hb;refine (K1.out _).mono ?_;rintro e w18 ⟨rfl,hb⟩;refine hK _ _ ((zC.refl _ _).call hb) ?_;clear hK K;replace F:=zd F hb;replace H:=za (H.out.call hb)
   replace HB:=za (HB.out.call hb);replace BX:=ze BX hb;clear hb t0 u0 u1 u2 u3 v0 v1 v2 v3 d0 d1 d2 d3 c0 c1 c2 c3;refine zf ?_;go_big_quiet_step (fail);refine wpQuiet_nil ?_;refine zm rfl (fun w19 hb K hK=>?_);go_simp;replace F:=zd F hb;replace H:=za (H.out.call hb);replace HB:=za (HB.out.call hb);replace BX:=ze BX hb;clear hb;refine (K2.out _).mono ?_;rintro e w20 ⟨rfl,hb⟩;refine hK _ _ ((zC.refl _ _).call hb) ?_
   clear hK K;replace F:=zd F hb;replace H:=za (H.out.call hb);replace HB:=za (HB.out.call hb);replace BX:=ze BX hb;clear hb;refine zm rfl (fun w21 hb K hK=>?_);go_simp;replace F:=zd F hb;replace H:=za (H.out.call hb);replace HB:=za (HB.out.call hb);replace BX:=ze BX hb;clear hb;refine (K3.out _).mono ?_;rintro e w22 ⟨rfl,hb⟩;refine hK _ _ ((zC.refl _ _).call hb) ?_;clear hK K;replace F:=zd F hb
   replace H:=za (H.out.call hb);replace HB:=za (HB.out.call hb);replace BX:=ze BX hb;clear hb;refine zf ?_;go_big_quiet_step (fail);refine wpQuiet_nil ?_;refine zJ rfl (fun w23 hb K hK=>?_);replace F:=zd F hb;replace H:=za (H.out.call hb);replace HB:=za (HB.out.call hb);replace BX:=ze BX hb;clear hb;obtain ⟨y0,y1,y2,y3⟩:=H.out.out.1.num hRk hy;have z0:=H.out.out.1.frozen hRk (j*4)
   have z1:=H.out.out.1.frozen hRk (j*4+1);have z2:=H.out.out.1.frozen hRk (j*4+2);have z3:=H.out.out.1.frozen hRk (j*4+3);dsimp only at y0 y1 y2 y3;go_simp;refine hK _ _ ?_;clear hK K y0 y1 y2 y3 z0 z1 z2 z3;have hmr:=List.mem_of_getElem? hr;have O1:=z7.set4 r.g (j*4) (j*4+1) (j*4+2) (j*4+3) w23 sv sl sh sb;have HT1:=za (H.out.out.1.upd hRk (ys:=r.xs.set j ⟨sv,sl,sh,sb⟩) (by simp) O1 (zH.put (show zH w23 B (.slice (some ⟨r.g,0,none⟩) r.xs.length r.cap) r.xs from H.out.out.1.rows r (List.mem_of_getElem? hRk)) j (by omega) ⟨sv,sl,sh,sb⟩))
   have HO1:=za (O1.own H.out.out.2 (fun e=>hne r hmr (by cases e;rfl)));rw [←HS.out,show (⟨r.g,r.cap,D k r.xs⟩:Row)=Row.on D k r from rfl,V6 hjk hr] at HT1;replace F:=za (F.out.touch (O1.touch (List.mem_cons_of_mem _ (List.mem_map_of_mem hmr))));replace BX:=za (BX.out.touch (O1.touch (G:=(eg::R.map Row.g)) (List.mem_cons_of_mem _ (List.mem_map_of_mem hmr))) F.out.gl);replace HB:=za (HB.out.trans (O1.touch (List.mem_cons_of_mem _ (List.mem_map_of_mem hmr))))
   obtain ⟨w24,hw24⟩:=zc (((((w23.setCell ⟨r.g,j*4,none⟩ sv).setCell ⟨r.g,j*4+1,none⟩ sl).setCell ⟨r.g,j*4+2,none⟩ sh).setCell ⟨r.g,j*4+3,none⟩ sb));rw [hw24] at F BX HB O1 ⊢;rw [hw24] at HT1 HO1;clear hw24 O1 H;have hRg:∀r,r∈yx (Row.on D) R j (k+1)→r.g<g:=fun r hr=>F.out.gl _ (List.mem_cons_of_mem _ (by rw [←YQ (f:=D) (R:=R) (j:=j) (k:=k+1)];exact List.mem_map_of_mem hr))
   have H:=za (Off.mk0 F.out.le F.out.hiw (fun X hX=>And.intro (HT1.out.off (fun q e=>by cases e;exact hvl) hRg X hX) (HO1.out.offl (fun q e=>by cases e;exact hel) X hX)));clear HT1 HO1;go_wp2_with fail;obtain ⟨u0,u1,u2,u3⟩:=H.out.out.2.num hEk;dsimp only at u0 u1 u2 u3;have v0:=(F.out.out.2).cell 0;have v1:=(F.out.out.2).cell 1;have v2:=(F.out.out.2).cell 2;have v3:=(F.out.out.2).cell 3
   have d0:=(BX.out.1).cell 0;have d1:=(BX.out.1).cell 1;have d2:=(BX.out.1).cell 2;have d3:=(BX.out.1).cell 3;replace F:=za F.out.now;replace H:=za H.out.now;have hstart:=F.out.hiw;refine zG [] (.rd (i:=0) rfl (.rd (i:=1) rfl (.rd (i:=2) rfl (.rd (i:=3) rfl (.rd (i:=4) rfl (.rd (i:=5) rfl (.rd (i:=6) rfl (.rd (i:=7) rfl (.rd (i:=8) rfl (.rd (i:=9) rfl (.tl (i:=10) rfl (.tl (i:=11) rfl (.rd (i:=12) rfl (.tl (i:=13) rfl .nil)))))))))))))) (by kernel_rfl) (by kernel_rfl) (fun c a d v w h=>by cases d<;>exact h) (fun c a d v w h=>by cases d<;>exact h) (by simp) ?_
   have ku0:=fun x=>But.cell (G:=[]) u0 (by simp) x;have ku1:=fun x=>But.cell (G:=[]) u1 (by simp) x;have ku2:=fun x=>But.cell (G:=[]) u2 (by simp) x;have ku3:=fun x=>But.cell (G:=[]) u3 (by simp) x;have kv0:=fun x=>But.cell (G:=[]) v0 (by simp) x;have kv1:=fun x=>But.cell (G:=[]) v1 (by simp) x;have kv2:=fun x=>But.cell (G:=[]) v2 (by simp) x;have kv3:=fun x=>But.cell (G:=[]) v3 (by simp) x
   have kd0:=fun x=>But.cell (G:=[]) d0 (by simp) x;have kd1:=fun x=>But.cell (G:=[]) d1 (by simp) x;have kd2:=fun x=>But.cell (G:=[]) d2 (by simp) x;have kd3:=fun x=>But.cell (G:=[]) d3 (by simp) x;iterate 10 (refine zf ?_;go_big_quiet_step (fail);refine wpQuiet_nil ?_)
   clear ku0 ku1 ku2 ku3 kv0 kv1 kv2 kv3 kd0 kd1 kd2 kd3;refine zm rfl (fun w25 hb K hK=>?_);replace hb:=qi hb;go_simp;replace F:=zd F hb;replace H:=za (H.out.call hb);replace HB:=za (HB.out.call hb);replace BX:=ze BX hb;clear hb;refine (K4.out _).mono ?_;rintro e w26 ⟨rfl,hb⟩;refine hK _ _ ((zC.refl _ _).call hb) ?_;clear hK K;replace F:=zd F hb;replace H:=za (H.out.call hb);replace HB:=za (HB.out.call hb)
   replace BX:=ze BX hb;clear hb u0 u1 u2 u3 v0 v1 v2 v3 d0 d1 d2 d3;refine zm rfl (fun w27 hb K hK=>?_);go_simp;replace F:=zd F hb;replace H:=za (H.out.call hb);replace HB:=za (HB.out.call hb);replace BX:=ze BX hb;clear hb;refine (K5.out _).mono ?_;rintro e w28 ⟨rfl,hb⟩;refine hK _ _ ((zC.refl _ _).call hb) ?_;clear hK K;replace F:=zd F hb;replace H:=za (H.out.call hb);replace HB:=za (HB.out.call hb)
   replace BX:=ze BX hb;clear hb;refine zf ?_;go_big_quiet_step (fail);refine wpQuiet_nil ?_;refine zJ rfl (fun w29 hb K hK=>?_);replace F:=zd F hb;replace H:=za (H.out.call hb);replace HB:=za (HB.out.call hb);replace BX:=ze BX hb;clear hb;obtain ⟨y0,y1,y2,y3⟩:=H.out.out.2.num hEk;have z0:=H.out.out.2.frozen (k*4);have z1:=H.out.out.2.frozen (k*4+1);have z2:=H.out.out.2.frozen (k*4+2)
   have z3:=H.out.out.2.frozen (k*4+3);dsimp only at y0 y1 y2 y3;go_simp;refine hK _ _ ?_;clear hK K y0 y1 y2 y3 z0 z1 z2 z3;have O1:=z7.set4 eg (k*4) (k*4+1) (k*4+2) (k*4+3) w29 bv bl bh bb;have HO1:=za (zH.put H.out.out.2 k (by rw [ZB];omega) ⟨bv,bl,bh,bb⟩);have HT1:=za (H.out.out.1.same (fun q e=>O1.block q (fun e'=>HVE.out (by cases e;exact e'))) (fun r hr=>O1.block r.g (fun e=>by have h2:r.g∈R.map Row.g:=(by rw [←YQ (f:=D) (R:=R) (j:=j) (k:=k+1)];exact List.mem_map_of_mem hr);obtain ⟨s,hs,he⟩:=List.mem_map.1 h2;exact hne s hs (he.trans e))))
   replace F:=za (F.out.touch (O1.touch List.mem_cons_self));replace BX:=za (BX.out.touch (O1.touch (G:=(eg::R.map Row.g)) List.mem_cons_self) F.out.gl);replace HB:=za (HB.out.trans (O1.touch List.mem_cons_self));obtain ⟨w30,hw30⟩:=zc (((((w29.setCell ⟨eg,k*4,none⟩ bv).setCell ⟨eg,k*4+1,none⟩ bl).setCell ⟨eg,k*4+2,none⟩ bh).setCell ⟨eg,k*4+3,none⟩ bb));rw [hw30] at F BX HB O1 ⊢
   rw [hw30] at HT1 HO1;clear hw30 O1 H;rw [←HBN.out,V6 hjk hu9] at HO1;go_wp2_with fail;go_roundw
   case rel=>exact ⟨k+1,by omega,by omega,by go_num,HB,za ⟨HT1.out,HO1.out⟩⟩
   case measure=>simp [intOf];omega
  ·obtain rfl:n=k:=by omega
   go_wp2_with fail
   go_end0
   exact ⟨rfl,HH.out.1,HH.out.2,F.out.out.1.1⟩
end
section
attribute [local go_sem] Oper.semAt_some
theorem zeJ (n:Nat) (hn:n≤1000) (w:World):Calls Tryz.prog 91 #[.slice none 0 0,.int .i64 (n:Int)] w fun e w'=>∃v,e=.returned v∧zH w' w.heap.size v []∧Below w.heap.size w w':=by
 have hu:=Tryz.underlying63;obtain ⟨i0,hi,hz0,hz1,hz2⟩:=info_parts Y7
 by_cases h0:n=0
 ·subst h0
  go_enter Tryz.func91,Tryz.ntmps91;go_wp2_with fail;go_ret;exact ⟨_,rfl,zH.nil_ _ _,Below.refl _ _⟩
 ·have happ:=Lib.run_append_nil_zeros (P:=Tryz.prog) w 63 3 63 71 i0 _ .i64 .i64 Tryz.underlying63 Tryz.underlying3 hi hz0 n (by omega) (by omega) (by omega) (by rw [hz2];omega)
  obtain ⟨cap,hcap⟩:=zc (grownCap w n 0 71);have hge:n≤cap:=by rw [←hcap];exact grownCap_ge w _ 0 71
  have hle:cap≤maxLen:=by rw [←hcap];exact grownCap_le_maxLen w _ 0 71 (by unfold maxLen;omega)
  rw [hcap] at happ;obtain ⟨Z,hZ⟩:=zc (Builtin.zeroCells (Value.agg #[.int .i64 0,.int .i64 0,.int .i64 0,.bool false]).cells n++Builtin.zeroCells (Value.agg #[.int .i64 0,.int .i64 0,.int .i64 0,.bool false]).cells (cap-n));have hZs:Z.size=cap*4:=by rw [←hZ];simp [size_zeroCells,Value.cells];omega
  rw [hZ] at happ;have hn0:(0:Int)<(n:Int):=by omega
  have hcI:(0:Int)≤(cap:Int):=by omega
  clear hcap hZ;go_enter Tryz.func91,Tryz.ntmps91;go_wp2_with (at_builtin;refine Lib.wpList_append_run _ rfl (.tmp 20) (.tmp 21) 63 3 rfl (.slice none 0 0) (.int .i64 (n:Int)) rfl rfl _ _ happ ?_)
  go_ret;refine ⟨_,rfl,?_,⟨rfl,rfl,rfl,by simp,fun k hk=>Below.heap_alloc w _ k hk⟩⟩;exact World.ownsRow_made w Z cap (Nat.le_refl _) hle hZs
theorem zgJ {B:Nat} {a W W':World} {v:Value} {xs:List Num} (h:Below B a W) (hB:B≤W.heap.size) (o:zH W B v xs) (g:W.grownBy W' v.ownBlock):Below B a W' :=
 h.trans ⟨g.os,g.tape,g.output,g.size,fun k hk=>g.block k (by omega) (fun e=>by have:=(World.ownsRow.lt o k e.symm).1;omega)⟩
structure SlR where
 A:Option Addr
 n:Nat
 c:Nat
 xs:List Num
def zaC (W:World) (b:Nat) (L:List SlR):Prop:=∀i s,L[i]?=some s→0<s.n∧W.cell? ⟨b,i,none⟩=some (.slice s.A s.n s.c)∧zk W s.A s.n s.c s.xs
theorem zaC.below {W W':World} {b:Nat} {L:List SlR} (h:zaC W b L) (hb:Below W.heap.size W W'):zaC W' b L:=fun i s hs=>⟨(h i s hs).1,zR hb _ _ _ (h i s hs).2.1,(h i s hs).2.2.below hb⟩
def zkS (B b:Nat) (L:List SlR):Prop:=∀(i:Nat) (s:SlR),L[i]?=some s→b<B∧∀q o,s.A=some ⟨q,o,none⟩→q<B
theorem zaC.low {W:World} {b B:Nat} {L:List SlR} (h:zaC W b L) (hB:W.heap.size=B):zkS B b L:=fun i s hs=>by
 subst hB;obtain ⟨h1,h2,h3⟩:=h i s hs;exact ⟨World.block_lt_of_cell? W ⟨b,i,none⟩ h2,fun q o e=>h3.low q o e h1⟩
theorem zaC.grown {W W':World} {b B:Nat} {L:List SlR} {row:Option Nat} (h:zaC W b L) (hg:W.grownBy W' row) (hr:∀q,row=some q→B≤q) (hl:zkS B b L):zaC W' b L:=fun i s hs=>by
 obtain ⟨h1,h2,h3⟩:=h i s hs;obtain ⟨l1,l2⟩:=hl i s hs;refine ⟨h1,hg.cell h2 (fun e=>by have:=hr b e.symm;omega),h3.1,h3.2.1,fun hn=>?_⟩;obtain ⟨q,o,e,hc⟩:=h3.2.2 hn;have hq:=l2 q o e;have hne:∀i,some (⟨q,i,none⟩:Addr).block≠row:=fun i e=>by have:=hr q e.symm;omega
 exact ⟨q,o,e,fun k x hx=>⟨hg.cell (hc k x hx).1 (hne _),hg.cell (hc k x hx).2.1 (hne _),hg.cell (hc k x hx).2.2.1 (hne _),hg.cell (hc k x hx).2.2.2 (hne _)⟩⟩
def jk (L:List SlR):Nat:=(L.map SlR.n).sum
theorem Vn (L:List SlR) (s:SlR):jk (L++[s])=jk L+s.n:=by simp [jk]
theorem Vm (L:List SlR) (k:Nat):jk (L.take k)≤jk L:=by
 conv=>rhs;rw [←List.take_append_drop k L]
 simp only [jk,List.map_append,List.sum_append];omega
theorem zaq {W:World} {b:Nat}:∀(L:List SlR),(∀s,s∈L→s.xs.length=s.n)→(L.flatMap SlR.xs).length=jk L
 | [],_=>rfl
 | s::L,h=>by
  have:=zaq (W:=W) (b:=b) L (fun s hs=>h s (List.mem_cons_of_mem _ hs));have hs:=h s List.mem_cons_self;simp only [List.flatMap_cons,List.length_append,this,hs,jk,List.map_cons,List.sum_cons]
theorem Yx (b n c:Nat) (L:List SlR) (hL:L.length=n) (hn:n≤100) (ht:jk L≤1000) (w:World) (h:zaC w b L):Calls Tryz.prog 58 #[.slice (some ⟨b,0,none⟩) n c] w (jl (L.flatMap SlR.xs) w):=by
 have hu:=Tryz.underlying63;have hu1:=Tryz.underlying131;have HG:=za (fun (k:Nat) (hk:k≤1000) (W:World)=>zeJ k hk W);have H:=za h;have hxl:∀s,s∈L→s.xs.length=s.n:=fun s hs=>by obtain ⟨i,hi⟩:=List.getElem?_of_mem hs;exact (h i s hi).2.2.1
 have HXL:=za hxl;clear h hxl;go_enter Tryz.func58,Tryz.ntmps58;go_wp2_with fail
 go_loopw [3,5,11] (fun z _ i wr=>∃k:Nat,k≤n∧i=.int .i64 k∧z=.int .i64 (jk (L.take k):Nat)∧wr=w) (fun _ _ i _=>n-(intOf i).toNat)
 case atStart=>exact ⟨0,by omega,rfl,rfl,rfl⟩
 case round =>
  obtain ⟨k,hk,rfl,rfl,rfl⟩:=hrel
  by_cases hlt:k<n
  ·have hltI:(k:Int)<(n:Int):=by omega
   obtain ⟨s,hs⟩:∃s,L[k]?=some s:=⟨_,List.getElem?_eq_getElem (by omega)⟩
   obtain ⟨h1,h2,h3⟩:=H.out k s hs;have hsz:jk (L.take k)+s.n=jk (L.take (k+1)):=by rw [jT hs,Vn]
   have hsz2:=Vm L (k+1);obtain ⟨q,hq⟩:=zc (jk (L.take k));rw [hq] at hsz ⊢;have hneg:¬((q:Int)+(s.n:Int)<0):=by omega
   have HS:=za hsz;have hq9:q+s.n≤1000:=by omega
   clear hsz hsz2 hq;go_wp2_with fail;go_roundw
   case rel=>exact ⟨k+1,by omega,by go_num,by rw [←HS.out];go_num,trivial⟩
   case measure=>simp [intOf];omega
  ·obtain rfl:k=n:=by omega
   rw [List.take_of_length_le (by omega)];go_wp2_with fail;refine (HG.out _ ht _).mono ?_;rintro e w1 ⟨v,rfl,ho,hb⟩;obtain ⟨Q0,n0,c0,rfl⟩:=zS ho;have HO:=za ho;have HB:=za hb;have H1:=za (H.out.below hb);obtain ⟨B,hB⟩:=zc (wr.heap.size);rw [hB] at HO HB;have hB1:B≤w1.heap.size:=by rw [←hB];exact hb.size
   have HBE:=za hB;have HLO:=za (zaC.low H.out hB);clear ho hb H;go_wp2_with fail
   go_loopw [6,8,27] (fun v _ i wx=>∃k':Nat,k'≤k∧i=.int .i64 k'∧Hid (zH wx B v ((L.take k').flatMap SlR.xs))∧Hid (Below B wr wx)∧Hid (zaC wx b L)∧B≤wx.heap.size) (fun _ _ i _=>k-(intOf i).toNat)
   case atStart=>exact ⟨0,by omega,rfl,HO,HB,H1,hB1⟩
   case round =>
    obtain ⟨j,hj,rfl,HO,HB,H,hBs⟩:=hrel
    by_cases hlt:j<k
    ·have hltI:(j:Int)<(k:Int):=by omega
     obtain ⟨s,hs⟩:∃s,L[j]?=some s:=⟨_,List.getElem?_eq_getElem (by omega)⟩
     obtain ⟨h1,h2,h3⟩:=H.out j s hs;have H3:=za h3;have hT:(L.take j).flatMap SlR.xs++s.xs=(L.take (j+1)).flatMap SlR.xs:=by rw [jT hs,List.flatMap_append];simp
     have hl:((L.take j).flatMap SlR.xs).length+s.n≤1000:=by
      rw [zaq (W:=wr) (b:=b) _ (fun s hs=>HXL.out s (List.mem_of_mem_take hs))];have e1:jk (L.take j)+s.n=jk (L.take (j+1)):=by rw [jT hs,Vn]
      have:=Vm L (j+1);omega
     have HT:=za hT;have HLL:=za hl;obtain ⟨K9,hK9⟩:=zc ((L.take j).flatMap SlR.xs);rw [hK9] at HO HT HLL;clear h3 hT hl hK9;obtain ⟨v,hv⟩:∃v,v=u6:=⟨_,rfl⟩
     subst hv;obtain ⟨sA,sn,sc,sx⟩:=s;dsimp only at h1 h2 H3 HLL HT;go_wp2_with (at_builtin;refine wpList_plain rfl (fun K hK=>?_);refine jE (.tmp 31) (.tmp 32) rfl B v K9 sx sA sn sc rfl HO.out rfl h1 H3.out (by have:=HLL.out;omega) hBs ?_;intro v3 w3 hown hgrow hat;refine hK _ _ ?_;clear hK K;have O3:=za hown;have K3:=za (zgJ HB.out hBs HO.out hgrow);have S3:=za (zaC.grown H.out hgrow (fun q e=>(World.ownsRow.lt HO.out q e).1) HLO.out);have hB3:B≤w3.heap.size:=Nat.le_trans hBs hgrow.size;clear hown hgrow hat)
     rw [HT.out] at O3;go_roundw
     case rel=>exact ⟨j+1,by omega,by go_num,O3,K3,S3,hB3⟩
     case measure=>simp [intOf];omega
    ·obtain rfl:k=j:=by omega
     rw [List.take_of_length_le (by omega)] at HO;obtain ⟨Q1,n1,c1,rfl⟩:=zS HO.out;go_wp2_with fail;go_ret;exact ⟨_,_,_,rfl,by rw [HBE.out];exact HO.out,by rw [HBE.out];exact HB.out⟩
end
theorem Xaj {P:Prop} (h:P:=by
 intro b hc k;rw [mem_ready,mem_ready];simp only [List.getElem?_toArray,List.getElem?_modify];constructor
 ·rintro ⟨h0,o,ho,he⟩
  refine ⟨h0,if i=k then vd j o else o,by rw [ho];split<;>rfl,?_⟩
  split
  ·rename_i hik
   subst hik;intro e hm hb;unfold vd at hm;simp only [Array.mem_push] at hm;rcases hm with hm|hm
   ·exact he e hm hb
   ·subst hm
    unfold zdw at hB;rw [ho] at hB;simp only [Option.map_some,Option.getD_some,Array.any_eq_true,Bool.and_eq_true] at hB;obtain ⟨p,hp,hb1,hk⟩:=hB;have hl:=he _ (Array.getElem_mem hp) hb1;cases ho2:l[(o.after[p]).on]? with
    | none=>rw [ho2] at hk;cases hk
    | some o2 =>
     rw [ho2] at hk;simp only [Option.map_some,Option.getD_some,Array.any_eq_true,Bool.and_eq_true,beq_iff_eq] at hk;obtain ⟨q,hq,hb2,hon⟩:=hk
     have hlt:(o.after[p]).on<b.size:=by
      rcases Nat.lt_or_ge (o.after[p]).on b.size with h'|h'
      ·exact h'
      ·simp [Array.getElem?_eq_none h'] at hl
     have:=hc _ o2 ho2 (by simpa [hlt] using hl) _ (Array.getElem_mem hq) hb2
     rwa [hon] at this
  ·exact he
 ·rintro ⟨h0,o,ho,he⟩
  refine ⟨h0,?_⟩;cases ho1:l[k]? with
  | none=>rw [ho1] at ho;simp at ho
  | some o1 =>
   rw [ho1] at ho;refine ⟨o1,rfl,fun e hm hb=>?_⟩
   by_cases hik:i=k
   ·simp only [hik,if_true,Option.map_eq_map,Option.map_some,Option.some.injEq] at ho
    subst ho;exact he e (by unfold vd;simp [hm]) hb
   ·simp only [hik,if_false,Option.map_eq_map,Option.map_some,id,Option.some.injEq] at ho
    subst ho;exact he e hm hb) : P := h
theorem Xbu {P:Prop} (h:P:=by
 intro b a w hc h;refine ⟨?_,h.2⟩;rw [List.eq_nil_iff_forall_not_mem];intro k hk;have:=(rdy b hc k).1 hk;rw [h.1] at this;cases this) : P := h
theorem Xa4 {P:Prop} (h:P:=by
 intro x o' ho' hx' e hm hb;refine getD_set_true ?_
 by_cases hkx:k=x
 ·subst hkx
  rw [ho] at ho';cases ho';exact he e hm hb
 ·rw [getD_set_ne true hkx] at hx'
  exact hc x o' ho' hx' e hm hb) : P := h
section
section
variable {P:Program} {Q:Exit→Act→World→Prop}
theorem zfE {ops:Array Oper}:∀(k:Nat) (b:Array Bool) (a:Act) (w:World),wpAny P .any ops Q k b a w→wpAny P .any ops Q (k+1) b a w
 | 0,b,a,w,h=>⟨fun _=>h.2,fun i hi=>by rw [h.1] at hi;cases hi⟩
 | k+1,b,a,w,h=>⟨h.1,fun i hi=>wpOp_mono (fun a' w' h'=>zfE k _ a' w' h') (h.2 i hi)⟩
theorem ziy {ops:Array Oper} (k j:Nat) (b:Array Bool) (a:Act) (w:World) (h:wpAny P .any ops Q k b a w):wpAny P .any ops Q (k+j) b a w:=by
 induction j with
 | zero=>exact h
 | succ j ih=>exact zfE _ _ _ _ ih
def zbL (l:List Oper) (m:Nat):Bool :=
 decide (m≤l.length)&&((List.range m).all fun i=>(l[i]?.map fun o=>o.guard.isNone&&o.after.all fun e=>!Region.binds .any e || decide (e.on<i)).getD false) &&
 ((List.range l.length).all fun i=>decide (i<m) || (List.range m).all fun j=>(l[i]?.map fun o=>o.after.any fun e=>Region.binds .any e&&e.on==j).getD false) &&
 Region.seqB .any l.toArray (l.length-m) m ((Array.range l.length).map fun i=>decide (i<m))
theorem zj4 {o:Oper} {a:Act} {w:World} {K K':Act→World→Prop} {N:Act→World→Prop} (h:∀a w,K a w→K' a w) (hh:o.wp P a w K (Exit.then N Q)):o.wp P a w K' Q:=by
 exact Xaz
theorem zcB {l:List Oper} {m:Nat} (hB:zbL l m=true) :
  ∀(f:Nat) (b b1:Array Bool) (a:Act) (w:World),b.size=l.length→b1.size=m→(∀i,i<m→b.getD i true=b1.getD i true)→(∀i,m≤i→i<l.length→b.getD i true=false) →
   wpAny P .any (l.take m).toArray (Exit.then (fun a w=>wpList P l.toArray Q (l.drop m) a w) Q) f b1 a w→wpAny P .any l.toArray Q (f+(l.length-m)) b a w:=by
 simp only [zbL,Bool.and_eq_true,decide_eq_true_eq,List.all_eq_true,List.mem_range] at hB;obtain ⟨⟨⟨hm,h1⟩,h2⟩,h3⟩:=hB;have hlt:(l.take m).length=m:=by rw [List.length_take];omega
 have getl:∀i,i<m→(l.take m).toArray[i]?=l.toArray[i]?:=fun i hi=>by rw [List.getElem?_toArray,List.getElem?_toArray,List.getElem?_take_of_lt hi]
 have first:∀i,i<m→∃o,l[i]?=some o∧o.guard=none∧∀e,e∈o.after→Region.binds .any e=true→e.on<i:=fun i hi=>by
  have:=h1 i hi;cases ho:l[i]? with
  | none=>rw [ho] at this;cases this
  | some o =>
   rw [ho] at this;simp only [Option.map_some,Option.getD_some,Bool.and_eq_true,Option.isNone_iff_eq_none,Array.all_eq_true_iff_forall_mem,Bool.or_eq_true,Bool.not_eq_true', decide_eq_true_eq] at this;exact ⟨o,rfl,this.1,fun e he hb=>(this.2 e he).resolve_left (by simp [hb])⟩
 have done_or:∀(b1:Array Bool),(∀i,i<m→b1.getD i true=true)∨∃i,i<m∧b1.getD i true=false∧∀j,j<i→b1.getD j true=true:=by
  intro b1
  have key:∀k,k≤m→(∀i,i<k→b1.getD i true=true)∨∃i,i<m∧b1.getD i true=false∧∀j,j<i→b1.getD j true=true:=by
   intro k
   induction k with
   | zero=>exact fun _=>.inl fun i hi=>absurd hi (by omega)
   | succ k ih =>
    intro hk;rcases ih (by omega) with h|h
    ·cases hb:b1.getD k true with
     | false=>exact .inr ⟨k,by omega,hb,h⟩
     | true =>
      refine .inl (fun i hi=>?_);rcases Nat.lt_or_ge i k with h'|h'
      ·exact h i h'
      ·obtain rfl:i=k:=by omega
       exact hb
    ·exact .inr h
  exact key m (Nat.le_refl _)
 have getF:∀(b:Array Bool) (i:Nat),i<b.size→b.getD i false=b.getD i true:=fun b i hi=>by simp [hi]
 have fin:∀(F:Nat) (b:Array Bool) (a:Act) (w:World),b.size=l.length→(∀i,i<m→b.getD i true=true)→(∀i,m≤i→i<l.length→b.getD i true=false)→wpList P l.toArray Q (l.drop m) a w→wpAny P .any l.toArray Q (F+(l.length-m)) b a w:=by
  intro F b a w hs hb hb2 h
  have e:b=(Array.range l.length).map fun i=>decide (i<m):=by
   apply Array.ext
   ·simp [hs]
   ·intro i hi hi2
    have hil:i<l.length:=by omega
    simp only [Array.getElem_map,Array.getElem_range];rcases Nat.lt_or_ge i m with h'|h'
    ·have:=hb i h'
     simp only [Array.getD_eq_getD_getElem?,Array.getElem?_eq_getElem hi,Option.getD_some] at this;rw [this,decide_eq_true h']
    ·have:=hb2 i h' hil
     simp only [Array.getD_eq_getD_getElem?,Array.getElem?_eq_getElem hi,Option.getD_some] at this;rw [this,decide_eq_false (by omega)]
  subst e;have:=wpAny_of_seq (P:=P) (md:=.any) (ops:=l.toArray) (Q':=Q) (l.drop m) m _ a w (fun j=>by simp [List.getElem?_drop]) (by rw [List.length_drop];exact h3) h;rw [List.length_drop] at this;rw [Nat.add_comm];exact ziy _ _ _ _ _ this
 have rdy1:∀(b1:Array Bool),b1.size=m→∀j,j∈Region.ready .any (l.take m).toArray b1↔j<m∧b1.getD j true=false∧∃o,l[j]?=some o∧∀e,e∈o.after→Region.binds .any e=true→b1.getD e.on false=true:=by
  intro b1 hs1 j;rw [mem_ready];constructor
  ·rintro ⟨h0,o,ho,he⟩
   have hj:j<m:=by
    have:=(Array.getElem?_eq_some_iff.1 ho).1
    simpa [hlt] using this
   exact ⟨hj,h0,o,by rw [getl j hj,List.getElem?_toArray] at ho;exact ho,he⟩
  ·rintro ⟨hj,h0,o,ho,he⟩
   exact ⟨h0,o,by rw [getl j hj,List.getElem?_toArray];exact ho,he⟩
 intro f
 induction f with
 | zero =>
  intro b b1 a w hs hs1 hb hb2 h;obtain ⟨hr,hq⟩:=h;rcases done_or b1 with hd|⟨i,hi,hi0,hlow⟩
  ·exact fin 0 b a w hs (fun i hi=>by rw [hb i hi];exact hd i hi) hb2 hq
  ·exfalso
   obtain ⟨o,ho,_,he⟩:=first i hi
   have:i∈Region.ready .any (l.take m).toArray b1:=(rdy1 b1 hs1 i).2 ⟨hi,hi0,o,ho,fun e hm' hb'=>by
    have hlt':=he e hm' hb';rw [getF b1 _ (by omega)];exact hlow _ hlt'⟩
   rw [hr] at this;cases this
 | succ f ih =>
  intro b b1 a w hs hs1 hb hb2 h;rcases done_or b1 with hd|⟨i,hi,hi0,hlow⟩
  ·refine fin (f+1) b a w hs (fun i hi=>by rw [hb i hi];exact hd i hi) hb2 (h.1 ?_)
   rw [List.eq_nil_iff_forall_not_mem];intro j hj;obtain ⟨hjm,hj0,_⟩:=(rdy1 b1 hs1 j).1 hj;rw [hd j hjm] at hj0;cases hj0
  ·rw [show f+1+(l.length-m)=(f+(l.length-m))+1 by omega]
   have mem:∀j,j∈Region.ready .any l.toArray b→j∈Region.ready .any (l.take m).toArray b1:=by
    intro j hj;obtain ⟨h0,o,ho,he⟩:=mem_ready.1 hj;rw [List.getElem?_toArray] at ho;have hjl:j<l.length:=(List.getElem?_eq_some_iff.1 ho).1
    have hjm:j<m:=by
     rcases Nat.lt_or_ge j m with h'|h'
     ·exact h'
     ·exfalso
      have:=h2 j hjl;rw [decide_eq_false (by omega),Bool.false_or,List.all_eq_true] at this;have:=this i (List.mem_range.2 hi);rw [ho] at this;simp only [Option.map_some,Option.getD_some,Array.any_eq_true,Bool.and_eq_true,beq_iff_eq] at this;obtain ⟨k,hk,hbk,hon⟩:=this;have:=he _ (Array.getElem_mem hk) hbk;rw [hon,getF b i (by omega),hb i hi,hi0] at this;cases this
    refine (rdy1 b1 hs1 j).2 ⟨hjm,by rw [←hb j hjm];exact h0,o,ho,fun e hme hbe=>?_⟩;obtain ⟨o', ho', _,he'⟩:=first j hjm;rw [ho] at ho';cases ho';have hon:=he' e hme hbe;have:=he e hme hbe;rw [getF b _ (by omega),hb _ (by omega)] at this;rw [getF b1 _ (by omega)];exact this
   refine ⟨fun h0=>?_,fun j hj=>?_⟩
   ·exfalso
    obtain ⟨o,ho,_,he⟩:=first i hi
    have:i∈Region.ready .any l.toArray b:=mem_ready.2 ⟨by rw [hb i hi];exact hi0,o,by rw [List.getElem?_toArray];exact ho,fun e hme hbe=>by
     have:=he e hme hbe;rw [getF b _ (by omega),hb _ (by omega)];exact hlow _ this⟩
    rw [h0] at this;cases this
   ·have hj1:=mem j hj
    obtain ⟨hjm,hj0,o,ho,_⟩:=(rdy1 b1 hs1 j).1 hj1;have hx:=h.2 j hj1;obtain ⟨o', ho', hg,_⟩:=first j hjm;rw [ho] at ho';cases ho';have hw:∀y,Region.wanted o y=true:=fun y=>by simp [Region.wanted,hg]
    unfold wpOp at hx ⊢;rw [getl j hjm] at hx;simp only [List.getElem?_toArray,ho,hw,if_true] at hx ⊢
    have step:∀a' w', wpAny P .any (l.take m).toArray (Exit.then (fun a w=>wpList P l.toArray Q (l.drop m) a w) Q) f (b1.setIfInBounds j true) a' w'→wpAny P .any l.toArray Q (f+(l.length-m)) (b.setIfInBounds j true) a' w':=by
     intro a' w' h';refine ih _ _ a' w' (by simp [hs]) (by simp [hs1]) (fun k hk=>?_) (fun k hk hk2=>?_) h'
     ·by_cases hjk:j=k
      ·subst hjk;simp [hs,hs1,hjm,show j<l.length by omega]
      ·rw [getD_set_ne true hjk,getD_set_ne true hjk];exact hb k hk
     ·rw [getD_set_ne true (by omega)];exact hb2 k hk hk2
    rcases hx with hx|⟨hx,hl⟩
    ·exact .inl (zj4 step hx)
    ·exact .inr ⟨hx,hl⟩
theorem zix {l:List Oper} (m:Nat) (hB:zbL l m=true) (a:Act) (w:World) (h:wpAny P .any (l.take m).toArray (Exit.then (fun a w=>wpList P l.toArray Q (l.drop m) a w) Q) (l.take m).toArray.size (Array.replicate (l.take m).toArray.size false) a w) :
  wpAny P .any l.toArray Q l.toArray.size (Array.replicate l.toArray.size false) a w:=by
 have hm:m≤l.length:=by
  simp only [zbL,Bool.and_eq_true,decide_eq_true_eq] at hB;exact hB.1.1.1
 have hlt:(l.take m).toArray.size=m:=by simp;omega
 rw [hlt] at h;have:=zcB hB m (Array.replicate l.length false) (Array.replicate m false) a w (by simp) (by simp) (fun i hi=>by simp [hi,show i<l.length by omega]) (fun i _ hi=>by simp [hi]) h;rw [show m+(l.length-m)=l.length by omega] at this
 simpa using this
theorem Jh {id:Nat} {a:Act} {w:World} {l:List Oper} (m:Nat) (hm:P.follows .mixedOrders=true) (hB:zbL l m=true)
  (h:wpAny P .any (l.take m).toArray (Exit.then (fun a w=>wpList P l.toArray Q (l.drop m) a w) Q) (l.take m).toArray.size (Array.replicate (l.take m).toArray.size false) a w.drew):(Code.region id l.toArray true).wp P Q a w :=
 wp_region_any hm (zix m hB a w.drew h)
def vd (j:Nat) (o:Oper):Oper:={ o with after:=o.after.push ⟨j,.phase⟩ }
theorem zkA {j:Nat} {o:Oper} {a:Act} {w:World} {K:Act→World→Prop}:(vd j o).wp P a w K Q=o.wp P a w K Q:=by cases o;rfl
theorem ziB {j:Nat} {o:Oper} {a:Act} {w:World}:(vd j o).asks P a w=o.asks P a w:=by cases o;rfl
def zdw (l:List Oper) (i j:Nat):Bool:=(l[i]?.map fun o=>o.after.any fun e=>Region.binds .any e&&(l[e.on]?.map fun o'=>o'.after.any fun e'=>Region.binds .any e'&&e'.on==j).getD false).getD false
theorem Vf {l:List Oper} {i j:Nat} (t:Array Value):yielded (l.modify i (vd j)).toArray t=yielded l.toArray t:=by
 funext k
 unfold yielded;simp only [List.getElem?_toArray,List.getElem?_modify];cases l[k]? with
 | none=>rfl
 | some o =>
  by_cases h:i=k
  ·simp only [h,if_true];rfl
  ·simp only [h,if_false];rfl
theorem zc3 {l:List Oper} {i j:Nat} (hB:zdw l i j=true):∀(f:Nat) (b:Array Bool) (a:Act) (w:World),
  (∀(x:Nat) (o:Oper),l[x]?=some o→b.getD x true=true→∀e,e∈o.after→Region.binds .any e=true→b.getD e.on false=true) →
   wpAny P .any (l.modify i (vd j)).toArray Q f b a w→wpAny P .any l.toArray Q f b a w:=by
 have rdy:∀(b:Array Bool),(∀(x:Nat) (o:Oper),l[x]?=some o→b.getD x true=true→∀e,e∈o.after→Region.binds .any e=true→b.getD e.on false=true)→∀k,k∈Region.ready .any l.toArray b↔k∈Region.ready .any (l.modify i (vd j)).toArray b:=by
  exact Xaj
 intro f
 induction f with
 | zero =>
  exact Xbu
 | succ f ih =>
  intro b a w hc h;refine ⟨fun h0=>h.1 ?_,fun k hk=>?_⟩
  ·rw [List.eq_nil_iff_forall_not_mem]
   intro k hk;have:=(rdy b hc k).2 hk;rw [h0] at this;cases this
  ·have hx:=h.2 k ((rdy b hc k).1 hk)
   obtain ⟨h0,o,ho,he⟩:=mem_ready.1 hk;rw [List.getElem?_toArray] at ho
   have hc':∀(x:Nat) (o:Oper),l[x]?=some o→(b.setIfInBounds k true).getD x true=true→∀e,e∈o.after→Region.binds .any e=true→(b.setIfInBounds k true).getD e.on false=true:=by
    exact Xa4
   unfold wpOp at hx ⊢;simp only [List.getElem?_toArray,List.getElem?_modify,ho,Vf] at hx ⊢
   by_cases hik:i=k
   ·simp only [hik,if_true,Option.map_eq_map,Option.map_some] at hx
    have hw:Region.wanted (vd j o) (yielded l.toArray a.tmps)=Region.wanted o (yielded l.toArray a.tmps):=rfl;rw [hw] at hx
    split at hx
    ·rename_i hwt
     rw [if_pos hwt];rw [zkA,ziB] at hx;subst hik;exact hx.imp (Oper.wp_mono fun a' w' h'=>ih _ _ _ hc' h') id
    ·rename_i hwt
     rw [if_neg hwt];subst hik;exact ih _ _ _ hc' hx
   ·simp only [hik,if_false,Option.map_eq_map,Option.map_some,id] at hx
    split at hx
    ·rename_i hwt
     rw [if_pos hwt];exact hx.imp (Oper.wp_mono fun a' w' h'=>ih _ _ _ hc' h') id
    ·rename_i hwt
     rw [if_neg hwt];exact ih _ _ _ hc' hx
theorem QI {l:List Oper} (i j:Nat) (hB:zdw l i j=true) {a:Act} {w:World} (h:wpAny P .any (l.modify i (vd j)).toArray Q (l.modify i (vd j)).toArray.size (Array.replicate (l.modify i (vd j)).toArray.size false) a w) :
  wpAny P .any l.toArray Q l.toArray.size (Array.replicate l.toArray.size false) a w:=by
 have e:(l.modify i (vd j)).toArray.size=l.toArray.size:=by simp
 rw [e] at h;refine zc3 hB _ _ a w (fun x o ho hx=>?_) h;have hlt:x<l.length:=(List.getElem?_eq_some_iff.1 ho).1;simp [hlt] at hx
end
end
end Go.Proofs.YtcoiklclbljjeaaGreatDoor.L
