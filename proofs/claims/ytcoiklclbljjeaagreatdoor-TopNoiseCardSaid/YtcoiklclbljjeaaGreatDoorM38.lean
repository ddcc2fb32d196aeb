/- Lemmas of the card's proof. -/
import Derived.Test.YtcoiklclbljjeaaGreatDoorM37
set_option linter.unusedVariables false
set_option linter.unusedSimpArgs false
set_option maxRecDepth 100000
set_option maxHeartbeats 16000000
namespace Go.Proofs.YtcoiklclbljjeaaGreatDoor.L
open Go.RowKit
section
structure zlH (p:Prop):Prop where
 out:p
attribute [local go_sem] Oper.semAt_some
theorem zgj (n:Nat) (hn:n≤4) (A0:Option Addr) (c0:Nat) (A1:Option Addr) (m1 c1:Nat) (B0:Option Addr) (d0:Nat) (B1:Option Addr) (k1 d1:Nat) (x p y s:List Num) (hp:zt n n p) (hs:zt n n s) (a b c d:Num) (w:World) (h0:zk w A0 n c0 x) (h1:zk w A1 m1 c1 p) (h2:zk w B0 n d0 y) (h3:zk w B1 k1 d1 s) (sec:Int) (A:Option Addr) (m cc:Nat) (l:List Int) (hx:zU w A m cc l) (hok:zQ 3 sec n l=true) (hso:jQ 3 sec n l=0) :
  Calls Tryz.prog 107 #[j6 n A0 c0 A1 m1 c1 B0 d0 B1 k1 d1 a b c d,qV 3 sec n A m cc] w fun e w'=>(∃v,e=.returned (.tuple #[v,.bool true])∧qB w' w.heap.size n (YF n x p (zM (l.take n)) (jf (l.getD n 0)) (jf (l.getD (n+1) 0))) (zb8 n p (zM (l.take n)) (jf (l.getD n 0))) (Qj n y s (zM (l.take n)) (jf (l.getD n 0)) (jf (l.getD (n+1) 0))) (ZG n s (zM (l.take n)) (jf (l.getD n 0))) (zb9 x (zM (l.take n)) (jf (l.getD (n+1) 0))) (zff n p (zM (l.take n)) (jf (l.getD n 0))) (YS y (zM (l.take n)) (jf (l.getD (n+1) 0))) (yz n s (zM (l.take n)) (jf (l.getD n 0))).a v)∧Below w.heap.size w w':=by
 obtain ⟨hn1,_,_,_,_,hkl⟩:=zX hok;have hll:l.length=n+2:=by omega
 have hm:=hx.1;have hn1:1≤n:=by omega
 obtain ⟨r,z,hp0,hp1,hp2,hpl,hr,hz⟩:=zi1 hll;have SO:=za (fun W h=>Qd 3 sec n A m cc l (by omega) W h);rw [hso] at SO;have PA:=za (fun W h=>Qe 3 sec n A m cc l W h hok);have er:l.getD n 0=r:=by rw [List.getD_eq_getElem?_getD,hr];rfl
 have ez:l.getD (n+1) 0=z:=by rw [List.getD_eq_getElem?_getD,hz];rfl
 rw [er,ez];obtain ⟨p0,e0⟩:=zc (l.take n);have l0:p0.length=n:=by rw [←e0,List.length_take];omega
 have l1:[r].length=1:=rfl;have l2:[z].length=1:=rfl;have lh:(zM p0).length=n:=by rw [jo,l0]
 obtain ⟨rs,hrs⟩:=zc (qw 3 n l);rw [hrs] at PA hp0 hp1 hp2 hpl;rw [e0] at hp0;rw [e0];have PT:=za (fun (A:Option Addr) (c:Nat) (W:World) (h:zU W A n c p0)=>QX A n c p0 (by omega) W h);have EP:=za (fun (k:Int) (W:World)=>zcl k W);obtain ⟨hh,ehh⟩:=zc (zM p0);rw [ehh] at PT lh;rw [ehh];have JU:=za (fun (A2:Option Addr) (c2:Nat) (W:World) (h0:zk W A0 n c0 x) (h1:zk W A1 m1 c1 p) (h2:zk W A2 n c2 hh)=>zcW n hn A0 c0 A1 m1 c1 A2 c2 x p hh (jf r) (jf z) hp W h0 h1 h2)
 have RU:=za (fun (A2:Option Addr) (c2:Nat) (W:World) (h0:zk W B0 n d0 y) (h1:zk W B1 k1 d1 s) (h2:zk W A2 n c2 hh)=>zeO n hn B0 d0 B1 k1 d1 A2 c2 y s hh (jf r) (jf z) hs W h0 h1 h2);obtain ⟨rn,ern⟩:=zc (jf r);obtain ⟨zn,ezn⟩:=zc (jf z);have EPr:=EP.out r;have EPz:=EP.out z;rw [ern] at EPr JU RU;rw [ezn] at EPz JU RU;rw [ern,ezn];have LEN0:(YF n x p hh rn zn).length=n:=zhW _ _ _ _ h0.1
 have LEN1:(Qj n y s hh rn zn).length=n:=zf2 _ _ _ hs h2.1;obtain ⟨jx,ejx⟩:=zc (YF n x p hh rn zn);obtain ⟨jp,ejp⟩:=zc (zb8 n p hh rn);obtain ⟨jn,ejn⟩:=zc (zb9 x hh zn);obtain ⟨ja,eja⟩:=zc (zff n p hh rn);obtain ⟨rx,erx⟩:=zc (Qj n y s hh rn zn);obtain ⟨rp,erp⟩:=zc (ZG n s hh rn);obtain ⟨rnu,ernu⟩:=zc (YS y hh zn);obtain ⟨ra,era⟩:=zc ((yz n s hh rn).a);rw [ejx,ejp,ejn,eja] at JU
 rw [erx,erp,ernu,era] at RU;rw [ejx] at LEN0;rw [erx] at LEN1;rw [ejx,ejp,ejn,eja,erx,erp,ernu,era];have hu5:=Tryz.underlying47;have hu6:=Tryz.underlying73;have hu7:=Tryz.underlying74;have HX:=za hx;have P0:=za hp0;have P1:=za hp1;have P2:=za hp2;have EPR:=za EPr;have EPZ:=za EPz;clear hx hok hso hkl e0 hrs hp0 hp1 hp2 er ez hr hz ehh ern ezn EP EPr EPz ejx ejp ejn eja erx erp ernu era hll
 have hu:=Tryz.underlying76;have hu1:=Tryz.underlying67;have hu2:=Tryz.underlying69;have hu3:=Tryz.underlying65;have hu4:=Tryz.underlying71;have RI:=za (fun W=>jr n hn A0 c0 A1 m1 c1 B0 d0 B1 k1 d1 p s hp hs h1.1 h3.1 a b c d W);have H0:=za h0;have H1:=za h1;have H2:=za h2;have H3:=za h3;clear h0 h1 h2 h3;obtain ⟨av,al,ah,ab⟩:=a;obtain ⟨bv,bl,bh,bb⟩:=b;obtain ⟨cv,cl,ch,cb⟩:=c
 obtain ⟨dv,dl,dh,db⟩:=d;unfold j6 at RI ⊢;dsimp only at RI ⊢;obtain ⟨rv,rl,rh,rb⟩:=rn;obtain ⟨zv,zl,zh,zb⟩:=zn;obtain ⟨jnv,jnl,jnh,jnb⟩:=jn;obtain ⟨jav,jal,jah,jab⟩:=ja;obtain ⟨rnv,rnl,rnh,rnb⟩:=rnu;obtain ⟨rav,ral,rah,rab⟩:=ra;unfold qV at SO PA ⊢;unfold yW Num.val at JU RU;unfold zaD at JU RU;unfold Num.val at EPR EPZ;unfold qB j6;dsimp only at JU RU EPR EPZ ⊢
 go_enter Tryz.func107,Tryz.ntmps107;go_wp2_with fail;obtain ⟨W0,hW0⟩:=zc ((((w.alloc (.cells #[.slice A0 n c0,.int .i64 (n:Int),.int .i64 (n:Int),.slice A1 m1 c1,.slice B0 n d0,.int .i64 (n:Int),.int .i64 (n:Int),.slice B1 k1 d1,av,al,ah,ab,bv,bl,bh,bb,cv,cl,ch,cb,dv,dl,dh,db] 76)).alloc (.cells #[.int .i64 3,sec,.int .i64 (n:Int),.slice A m cc] 47)).alloc (.cells #[.slice none 0 0,.int .i64 0,.int .i64 0,.slice none 0 0,.slice none 0 0,.int .i64 0,.int .i64 0,.slice none 0 0,.int .i64 0,.int .i64 0,.int .i64 0,.bool false,.int .i64 0,.int .i64 0,.int .i64 0,.bool false,.int .i64 0,.int .i64 0,.int .i64 0,.bool false,.int .i64 0,.int .i64 0,.int .i64 0,.bool false] 76)))
 obtain ⟨bx,b0,hsz⟩:=Jq hW0;rw [hW0];clear hW0;have F:=za ((((((Off.start b0 hsz).argN b0 (H0.out)).argN b0 (H1.out)).argN b0 (H2.out)).argN b0 (H3.out)).argI b0 (HX.out));have BX:=za bx;clear bx b0 hsz;obtain ⟨g,hg⟩:=zc (w.heap.size);rw [hg] at F BX
 try simp only [hg]
 try go_wp2_with fail
 have x0:=(BX.out.2.1).cell 0;have x1:=(BX.out.2.1).cell 1;have x2:=(BX.out.2.1).cell 2;have x3:=(BX.out.2.1).cell 3;go_wp2_with fail;refine (SO.out _ F.out.out.2).mono ?_;rintro e w1 ⟨rfl,hb⟩;replace F:=zd F hb;replace BX:=ze BX hb;clear hb x0 x1 x2 x3;have ld:=(BX.out.1).load76 rfl;go_wp2_with (refine QL rfl 76 _ rfl _ _ _ rfl ld ?_)
 refine (RI.out _).mono ?_;rintro e w2 ⟨rfl,hb⟩;replace F:=zd F hb;replace BX:=ze BX hb;clear hb ld;have x0:=(BX.out.2.1).cell 0;have x1:=(BX.out.2.1).cell 1;have x2:=(BX.out.2.1).cell 2;have x3:=(BX.out.2.1).cell 3;have pc0:=(BX.out.1).cell 0;have hiw1:=F.out.hiw;go_wp2_with fail;refine (PA.out _ F.out.out.2).mono ?_;rintro e w3 ⟨v,rfl,ho,hb⟩;replace F:=zd F hb;replace BX:=ze BX hb
 have OP:=za ho;clear hb x0 x1 x2 x3 pc0 ho;obtain ⟨gp,cp,A2', c2', A3', c3', A4', c4', rfl,hcp,hc0,hc1,hc2,hi0,hi1,hi2,hgp,hf0,hf1,hf2⟩:=OP.out.at3 P0.out P1.out P2.out;rw [hpl] at hcp ⊢;rw [l0] at hc0 hi0;rw [l1] at hc1 hi1;rw [l2] at hc2 hi2;clear OP;have x0:=((BX.out.2.1).alloc (.cells #[.slice none 0 0,.int .i64 0,.int .i64 0,.slice none 0 0,.slice none 0 0,.int .i64 0,.int .i64 0,.slice none 0 0,.int .i64 0,.int .i64 0,.int .i64 0,.bool false,.int .i64 0,.int .i64 0,.int .i64 0,.bool false,.int .i64 0,.int .i64 0,.int .i64 0,.bool false,.int .i64 0,.int .i64 0,.int .i64 0,.bool false] 76)).cell 0
 go_wp2_with fail;clear x0;have BB:=F.out.out.1.1.1.1.1;have hgg:g+3≤w3.heap.size:=F.out.hiw;obtain ⟨V0,hV0⟩:=zc (w3.alloc (.cells #[.slice none 0 0,.int .i64 0,.int .i64 0,.slice none 0 0,.slice none 0 0,.int .i64 0,.int .i64 0,.slice none 0 0,.int .i64 0,.int .i64 0,.int .i64 0,.bool false,.int .i64 0,.int .i64 0,.int .i64 0,.bool false,.int .i64 0,.int .i64 0,.int .i64 0,.bool false,.int .i64 0,.int .i64 0,.int .i64 0,.bool false] 76))
 obtain ⟨bx,b0,hsz⟩:=z6 hV0;rw [hV0];clear hV0;have F2:=za (((((((((((Off.start b0 hsz).argN b0 (F.out.out.1.1.1.1.2)).argN b0 (F.out.out.1.1.1.2)).argN b0 (F.out.out.1.1.2)).argN b0 (F.out.out.1.2)).argI b0 hi0).argI b0 hi1).argI b0 hi2).argA b0 (BX.out.1)).argA b0 (BX.out.2.1)).argA b0 (BX.out.2.2.1));have lt0:=ji.lt hc0;replace F2:=za (F2.out.plus (ji.off2 (ji.off (lo:=0) (hi:=0) hc0 (by omega) _ (Sim.of_below b0 (Nat.le_refl _))) (.inl lt0)))
 have lt1:=ji.lt hc1;replace F2:=za (F2.out.plus (ji.off2 (ji.off (lo:=0) (hi:=0) hc1 (by omega) _ (Sim.of_below b0 (Nat.le_refl _))) (.inl lt1)));have lt2:=ji.lt hc2;replace F2:=za (F2.out.plus (ji.off2 (ji.off (lo:=0) (hi:=0) hc2 (by omega) _ (Sim.of_below b0 (Nat.le_refl _))) (.inl lt2)));have BX2:=za bx;clear bx b0 hsz F BX hc0 hi0 lt0 hc1 hi1 lt1 hc2 hi2 lt2;have hg0:=hg;clear hg
 obtain ⟨g0,rfl⟩:∃x,x=g:=⟨g,rfl⟩
 have F:=F2;clear F2;have BX:=BX2;clear BX2;obtain ⟨g,hg⟩:=zc (w3.heap.size);rw [hg] at F BX hgg
 try simp only [hg]
 clear SO RI PA;obtain ⟨br,or_,rfl,hcr⟩:=zU.one (F.out.out.1.1.1.1.1.1.1.2);obtain ⟨bz,oz,rfl,hcz⟩:=zU.one (F.out.out.1.1.1.1.1.1.2);unfold ji at hcr hcz;have y0:World.cell? V0 ⟨gp,0,none⟩=some (.slice A2' n c2'):=F.out.out.1.1.2;have y1:World.cell? V0 ⟨gp,1,none⟩=some (.slice (some ⟨br,or_,none⟩) 1 c3'):=F.out.out.1.2;have y2:World.cell? V0 ⟨gp,2,none⟩=some (.slice (some ⟨bz,oz,none⟩) 1 c4'):=F.out.out.2
 replace F:=za F.out.now;have hstart:=F.out.hiw;refine zG [] (.rd (i:=0) rfl (.rd (i:=1) rfl (.rd (i:=2) rfl (.rd (i:=4) rfl (.rd (i:=5) rfl (.rd (i:=6) rfl (.rd (i:=7) rfl (.rd (i:=8) rfl (.rd (i:=10) rfl (.rd (i:=11) rfl (.rd (i:=12) rfl (.rd (i:=13) rfl (.rd (i:=14) rfl (.tl (i:=3) rfl (.tl (i:=9) rfl (.tl (i:=15) rfl (.fl (i:=16) (st:=none) rfl rfl Jf (.fl (i:=17) (st:=none) rfl rfl Jf (.tl (i:=18) rfl (.tl (i:=19) rfl (.tl (i:=20) rfl .nil))))))))))))))))))))) (by kernel_rfl) (by kernel_rfl) (fun c a d v w h=>by cases d<;>exact h) (fun c a d v w h=>by cases d<;>exact h) (by simp) ?_
 have ky0:=fun x=>But.cell (G:=[]) y0 (by simp) x;have ky1:=fun x=>But.cell (G:=[]) y1 (by simp) x;have ky2:=fun x=>But.cell (G:=[]) y2 (by simp) x;have khcr:=fun x=>But.cell (G:=[]) hcr (by simp) x;have khcz:=fun x=>But.cell (G:=[]) hcz (by simp) x;iterate 13 (refine zf ?_;go_big_quiet_step (fail);refine wpQuiet_nil ?_)
 clear ky0 ky1 ky2 khcr khcz;refine zcL rfl (fun w4 hb K hK=>?_);replace hb:=qi hb;go_simp;replace F:=zd F hb;replace BX:=ze BX hb;clear hb;refine (PT.out A2' c2' _ F.out.out.1.1.1.1.1.1.1.1.2).mono ?_;rintro e w5 ⟨Q8,q8,u8,rfl,ho,hb⟩;obtain rfl:n=q8:=by have:=zL ho;rw [lh] at this;exact this.symm
 obtain ⟨qb,qo,rfl,hq9⟩:=ho.nums.2.2 hn1;refine hK _ _ [qb] ((zC.refl _ _).call hb) (fun d hd=>by cases List.mem_singleton.1 hd;exact ⟨zY ho _ _ rfl,ho.nums.low _ _ rfl hn1⟩) ?_;clear hK K;have fY0:∀b o,some (⟨qb,qo,none⟩:Addr)=some ⟨b,o,none⟩→g+1≤b:=fun b o e=>Nat.le_trans F.out.hiw (zY ho b o e);replace F:=zd F hb;replace BX:=ze BX hb;have Y0:=za ho.nums;clear hb ho hq9 y0 y1 y2 hcr hcz
 refine zm rfl (fun w6 hb K hK=>?_);go_simp;replace F:=zd F hb;replace BX:=ze BX hb;replace Y0:=za (Y0.out.below hb);clear hb;refine (EPR.out _).mono ?_;rintro e w7 ⟨rfl,hb⟩;refine hK _ _ ((zC.refl _ _).call hb) ?_;clear hK K;replace F:=zd F hb;replace BX:=ze BX hb;replace Y0:=za (Y0.out.below hb);clear hb;refine zm rfl (fun w8 hb K hK=>?_);go_simp;replace F:=zd F hb;replace BX:=ze BX hb
 replace Y0:=za (Y0.out.below hb);clear hb;refine (EPZ.out _).mono ?_;rintro e w9 ⟨rfl,hb⟩;refine hK _ _ ((zC.refl _ _).call hb) ?_;clear hK K;replace F:=zd F hb;replace BX:=ze BX hb;replace Y0:=za (Y0.out.below hb);clear hb;refine zT (fun w10 b1 hb hat lb1 nb1=>?_)
 try simp at nb1
 replace F:=zd F hb;replace BX:=ze BX hb;replace Y0:=za (Y0.out.below hb);have MR:=za hat;clear hat hb;refine zT (fun w11 b2 hb hat lb2 nb2=>?_)
 try simp at nb2
 replace F:=zd F hb;replace BX:=ze BX hb;replace Y0:=za (Y0.out.below hb);replace MR:=za (MR.out.below hb);have MW:=za hat;clear hat hb;have fz:∀b o,some (⟨qb,qo,none⟩:Addr)=some ⟨b,o,none⟩→¬b1=b∧¬b2=b:=fun b o e=>by cases e;omega
 refine zm rfl (fun w12 hb K hK=>?_);go_simp;replace F:=zd F hb;replace BX:=ze BX hb;replace Y0:=za (Y0.out.below hb);replace MR:=za (MR.out.below hb);replace MW:=za (MW.out.below hb);clear hb;refine hK _ _ (zC.refl _ _) ?_;clear hK K;refine zm rfl (fun w13 hb K hK=>?_);replace F:=zd F hb;replace BX:=ze BX hb;replace Y0:=za (Y0.out.below hb);replace MR:=za (MR.out.below hb);replace MW:=za (MW.out.below hb)
 clear hb;have rr0:=(MR.out).cell 0;have zrr0:=(MR.out).frozen 0;have rr1:=(MR.out).cell 1;have zrr1:=(MR.out).frozen 1;have rr2:=(MR.out).cell 2;have zrr2:=(MR.out).frozen 2;have rr3:=(MR.out).cell 3;have zrr3:=(MR.out).frozen 3;go_simp;refine hK _ _ (((((zC.refl _ _).set (.inl (by simp)) _ _).set (.inl (by simp)) _ _).set (.inl (by simp)) _ _).set (.inl (by simp)) _ _) ?_;clear hK K rr0  zrr0  rr1  zrr1  rr2  zrr2  rr3  zrr3
 replace F:=za (F.out.set4 (g:=b1) (.inr (by omega)) rv rl rh rb);replace BX:=za (BX.out.far4 (show g+1≤b1 by omega) rv rl rh rb);replace Y0:=za ((z7.all4 b1 w13 rv rl rh rb).nums Y0.out (fun b o e _=>by have:=fz b o e;omega));replace MW:=za (MW.out.far4 (q:=b1) (by omega) rv rl rh rb);replace MR:=za (MR.out.set4 rv rl rh rb);obtain ⟨w14,hw14⟩:=zc (((((w13.setCell ⟨b1,0,none⟩ rv).setCell ⟨b1,1,none⟩ rl).setCell ⟨b1,2,none⟩ rh).setCell ⟨b1,3,none⟩ rb))
 rw [hw14] at F BX Y0 MR MW ⊢;clear hw14;refine zJ rfl (fun w15 hb K hK=>?_);replace F:=zd F hb;replace BX:=ze BX hb;replace Y0:=za (Y0.out.below hb);replace MR:=za (MR.out.below hb);replace MW:=za (MW.out.below hb);clear hb;have rr0:=(MW.out).cell 0;have zrr0:=(MW.out).frozen 0;have rr1:=(MW.out).cell 1;have zrr1:=(MW.out).frozen 1;have rr2:=(MW.out).cell 2;have zrr2:=(MW.out).frozen 2
 have rr3:=(MW.out).cell 3;have zrr3:=(MW.out).frozen 3;go_simp;refine hK _ _ ?_;clear hK K rr0 zrr0 rr1 zrr1 rr2 zrr2 rr3 zrr3;replace F:=za (F.out.set4 (g:=b2) (.inr (by omega)) zv zl zh zb);replace BX:=za (BX.out.far4 (show g+1≤b2 by omega) zv zl zh zb);replace Y0:=za ((z7.all4 b2 w15 zv zl zh zb).nums Y0.out (fun b o e _=>by have:=fz b o e;omega));replace MR:=za (MR.out.far4 (q:=b2) (by omega) zv zl zh zb)
 replace MW:=za (MW.out.set4 zv zl zh zb);obtain ⟨w16,hw16⟩:=zc (((((w15.setCell ⟨b2,0,none⟩ zv).setCell ⟨b2,1,none⟩ zl).setCell ⟨b2,2,none⟩ zh).setCell ⟨b2,3,none⟩ zb));rw [hw16] at F BX Y0 MR MW ⊢;clear hw16;replace F:=za (F.out.plus (Y0.out.off (fun b o e _=>.inr (fY0 b o e))));clear Y0;replace F:=za (F.out.plus (MR.out.off (.inr (by omega))));clear MR;replace F:=za (F.out.plus (MW.out.off (.inr (by omega))))
 clear MW;have pc0:=(F.out.out.1.1.1.1.1.1.1.1.2).cell 0;have pc1:=(F.out.out.1.1.1.1.1.1.1.1.2).cell 1;have pc2:=(F.out.out.1.1.1.1.1.1.1.1.2).cell 2;have pc3:=(F.out.out.1.1.1.1.1.1.1.1.2).cell 3;have f0:=(F.out.out.1.2).cell 0;have f1:=(F.out.out.1.2).cell 1;have f2:=(F.out.out.1.2).cell 2;have f3:=(F.out.out.1.2).cell 3;have q_0:=(F.out.out.2).cell 0;have q_1:=(F.out.out.2).cell 1
 have q_2:=(F.out.out.2).cell 2;have q_3:=(F.out.out.2).cell 3;go_wp2_with fail;clear pc0 pc1 pc2 pc3 f0 f1 f2 f3 q_0 q_1 q_2 q_3;refine (JU.out _ u8 _ F.out.out.1.1.1.1.1.1.1.1.1.1.1.1.1.1.1.2 F.out.out.1.1.1.1.1.1.1.1.1.1.1.1.1.1.2 F.out.out.1.1.2).mono ?_;rintro e w17 ⟨Q0,q0,u0,R0,r0,t0,rfl,h0,h1,hb,hf0,hf1⟩;unfold yW;have hq0:n=q0:=by have:=h0.1;rw [←this];exact LEN0.symm
 subst hq0;have fX1:∀b o,R0=some ⟨b,o,none⟩→g+1≤b:=fun b o e=>Nat.le_trans F.out.hiw (hf1 b o e);have fX0:∀b o,Q0=some ⟨b,o,none⟩→g+1≤b:=fun b o e=>Nat.le_trans F.out.hiw (hf0 b o e);replace F:=zd F hb;replace BX:=ze BX hb;have X0:=za h0;clear hb;have X1:=za h1;clear h0 h1 hf0 hf1;replace F:=za (F.out.plus (X0.out.off (fun b o e _=>.inr (fX0 b o e))))
 clear X0;replace F:=za (F.out.plus (X1.out.off (fun b o e _=>.inr (fX1 b o e))));clear X1;have o0:=(BX.out.1).cell 0;have zo0:=(BX.out.1).frozen 0;have o1:=(BX.out.1).cell 1;have zo1:=(BX.out.1).frozen 1;have o2:=(BX.out.1).cell 2;have zo2:=(BX.out.1).frozen 2;have o3:=(BX.out.1).cell 3;have zo3:=(BX.out.1).frozen 3;have o8:=(BX.out.1).cell 8;have zo8:=(BX.out.1).frozen 8;have o9:=(BX.out.1).cell 9
 have zo9:=(BX.out.1).frozen 9;have o10:=(BX.out.1).cell 10;have zo10:=(BX.out.1).frozen 10;have o11:=(BX.out.1).cell 11;have zo11:=(BX.out.1).frozen 11;have o12:=(BX.out.1).cell 12;have zo12:=(BX.out.1).frozen 12;have o13:=(BX.out.1).cell 13;have zo13:=(BX.out.1).frozen 13;have o14:=(BX.out.1).cell 14;have zo14:=(BX.out.1).frozen 14;have o15:=(BX.out.1).cell 15;have zo15:=(BX.out.1).frozen 15
 replace F:=za (F.out.set (g:=g) (.inl (by omega)) 0 (.slice Q0 n u0));replace BX:Hid (zP (w17.setCell ⟨g,0,none⟩ (.slice Q0 n u0)) g [(76,#[.slice Q0 n u0,.int .i64 0,.int .i64 0,.slice none 0 0,.slice none 0 0,.int .i64 0,.int .i64 0,.slice none 0 0,.int .i64 0,.int .i64 0,.int .i64 0,.bool false,.int .i64 0,.int .i64 0,.int .i64 0,.bool false,.int .i64 0,.int .i64 0,.int .i64 0,.bool false,.int .i64 0,.int .i64 0,.int .i64 0,.bool false])]):=za (BX.out.set 0 0 (.slice Q0 n u0))
 replace F:=za (F.out.set (g:=g) (.inl (by omega)) 1 (.int .i64 (n:Int)));replace BX:Hid (zP ((w17.setCell ⟨g,0,none⟩ (.slice Q0 n u0)).setCell ⟨g,1,none⟩ (.int .i64 (n:Int))) g [(76,#[.slice Q0 n u0,.int .i64 (n:Int),.int .i64 0,.slice none 0 0,.slice none 0 0,.int .i64 0,.int .i64 0,.slice none 0 0,.int .i64 0,.int .i64 0,.int .i64 0,.bool false,.int .i64 0,.int .i64 0,.int .i64 0,.bool false,.int .i64 0,.int .i64 0,.int .i64 0,.bool false,.int .i64 0,.int .i64 0,.int .i64 0,.bool false])]):=za (BX.out.set 0 1 (.int .i64 (n:Int)))
 replace F:=za (F.out.set (g:=g) (.inl (by omega)) 2 (.int .i64 (n:Int)));replace BX:Hid (zP (((w17.setCell ⟨g,0,none⟩ (.slice Q0 n u0)).setCell ⟨g,1,none⟩ (.int .i64 (n:Int))).setCell ⟨g,2,none⟩ (.int .i64 (n:Int))) g [(76,#[.slice Q0 n u0,.int .i64 (n:Int),.int .i64 (n:Int),.slice none 0 0,.slice none 0 0,.int .i64 0,.int .i64 0,.slice none 0 0,.int .i64 0,.int .i64 0,.int .i64 0,.bool false,.int .i64 0,.int .i64 0,.int .i64 0,.bool false,.int .i64 0,.int .i64 0,.int .i64 0,.bool false,.int .i64 0,.int .i64 0,.int .i64 0,.bool false])]):=za (BX.out.set 0 2 (.int .i64 (n:Int)))
 replace F:=za (F.out.set (g:=g) (.inl (by omega)) 3 (.slice R0 r0 t0));replace BX:Hid (zP ((((w17.setCell ⟨g,0,none⟩ (.slice Q0 n u0)).setCell ⟨g,1,none⟩ (.int .i64 (n:Int))).setCell ⟨g,2,none⟩ (.int .i64 (n:Int))).setCell ⟨g,3,none⟩ (.slice R0 r0 t0)) g [(76,#[.slice Q0 n u0,.int .i64 (n:Int),.int .i64 (n:Int),.slice R0 r0 t0,.slice none 0 0,.int .i64 0,.int .i64 0,.slice none 0 0,.int .i64 0,.int .i64 0,.int .i64 0,.bool false,.int .i64 0,.int .i64 0,.int .i64 0,.bool false,.int .i64 0,.int .i64 0,.int .i64 0,.bool false,.int .i64 0,.int .i64 0,.int .i64 0,.bool false])]):=za (BX.out.set 0 3 (.slice R0 r0 t0))
 replace F:=za (F.out.set (g:=g) (.inl (by omega)) 8 jnv);replace BX:Hid (zP (((((w17.setCell ⟨g,0,none⟩ (.slice Q0 n u0)).setCell ⟨g,1,none⟩ (.int .i64 (n:Int))).setCell ⟨g,2,none⟩ (.int .i64 (n:Int))).setCell ⟨g,3,none⟩ (.slice R0 r0 t0)).setCell ⟨g,8,none⟩ jnv) g [(76,#[.slice Q0 n u0,.int .i64 (n:Int),.int .i64 (n:Int),.slice R0 r0 t0,.slice none 0 0,.int .i64 0,.int .i64 0,.slice none 0 0,jnv,.int .i64 0,.int .i64 0,.bool false,.int .i64 0,.int .i64 0,.int .i64 0,.bool false,.int .i64 0,.int .i64 0,.int .i64 0,.bool false,.int .i64 0,.int .i64 0,.int .i64 0,.bool false])]):=za (BX.out.set 0 8 jnv)
 replace F:=za (F.out.set (g:=g) (.inl (by omega)) 9 jnl);replace BX:Hid (zP ((((((w17.setCell ⟨g,0,none⟩ (.slice Q0 n u0)).setCell ⟨g,1,none⟩ (.int .i64 (n:Int))).setCell ⟨g,2,none⟩ (.int .i64 (n:Int))).setCell ⟨g,3,none⟩ (.slice R0 r0 t0)).setCell ⟨g,8,none⟩ jnv).setCell ⟨g,9,none⟩ jnl) g [(76,#[.slice Q0 n u0,.int .i64 (n:Int),.int .i64 (n:Int),.slice R0 r0 t0,.slice none 0 0,.int .i64 0,.int .i64 0,.slice none 0 0,jnv,jnl,.int .i64 0,.bool false,.int .i64 0,.int .i64 0,.int .i64 0,.bool false,.int .i64 0,.int .i64 0,.int .i64 0,.bool false,.int .i64 0,.int .i64 0,.int .i64 0,.bool false])]):=za (BX.out.set 0 9 jnl)
 replace F:=za (F.out.set (g:=g) (.inl (by omega)) 10 jnh);replace BX:Hid (zP (((((((w17.setCell ⟨g,0,none⟩ (.slice Q0 n u0)).setCell ⟨g,1,none⟩ (.int .i64 (n:Int))).setCell ⟨g,2,none⟩ (.int .i64 (n:Int))).setCell ⟨g,3,none⟩ (.slice R0 r0 t0)).setCell ⟨g,8,none⟩ jnv).setCell ⟨g,9,none⟩ jnl).setCell ⟨g,10,none⟩ jnh) g [(76,#[.slice Q0 n u0,.int .i64 (n:Int),.int .i64 (n:Int),.slice R0 r0 t0,.slice none 0 0,.int .i64 0,.int .i64 0,.slice none 0 0,jnv,jnl,jnh,.bool false,.int .i64 0,.int .i64 0,.int .i64 0,.bool false,.int .i64 0,.int .i64 0,.int .i64 0,.bool false,.int .i64 0,.int .i64 0,.int .i64 0,.bool false])]):=za (BX.out.set 0 10 jnh)
 replace F:=za (F.out.set (g:=g) (.inl (by omega)) 11 jnb);replace BX:Hid (zP ((((((((w17.setCell ⟨g,0,none⟩ (.slice Q0 n u0)).setCell ⟨g,1,none⟩ (.int .i64 (n:Int))).setCell ⟨g,2,none⟩ (.int .i64 (n:Int))).setCell ⟨g,3,none⟩ (.slice R0 r0 t0)).setCell ⟨g,8,none⟩ jnv).setCell ⟨g,9,none⟩ jnl).setCell ⟨g,10,none⟩ jnh).setCell ⟨g,11,none⟩ jnb) g [(76,#[.slice Q0 n u0,.int .i64 (n:Int),.int .i64 (n:Int),.slice R0 r0 t0,.slice none 0 0,.int .i64 0,.int .i64 0,.slice none 0 0,jnv,jnl,jnh,jnb,.int .i64 0,.int .i64 0,.int .i64 0,.bool false,.int .i64 0,.int .i64 0,.int .i64 0,.bool false,.int .i64 0,.int .i64 0,.int .i64 0,.bool false])]):=za (BX.out.set 0 11 jnb)
 replace F:=za (F.out.set (g:=g) (.inl (by omega)) 12 jav);replace BX:Hid (zP (((((((((w17.setCell ⟨g,0,none⟩ (.slice Q0 n u0)).setCell ⟨g,1,none⟩ (.int .i64 (n:Int))).setCell ⟨g,2,none⟩ (.int .i64 (n:Int))).setCell ⟨g,3,none⟩ (.slice R0 r0 t0)).setCell ⟨g,8,none⟩ jnv).setCell ⟨g,9,none⟩ jnl).setCell ⟨g,10,none⟩ jnh).setCell ⟨g,11,none⟩ jnb).setCell ⟨g,12,none⟩ jav) g [(76,#[.slice Q0 n u0,.int .i64 (n:Int),.int .i64 (n:Int),.slice R0 r0 t0,.slice none 0 0,.int .i64 0,.int .i64 0,.slice none 0 0,jnv,jnl,jnh,jnb,jav,.int .i64 0,.int .i64 0,.bool false,.int .i64 0,.int .i64 0,.int .i64 0,.bool false,.int .i64 0,.int .i64 0,.int .i64 0,.bool false])]):=za (BX.out.set 0 12 jav)
 replace F:=za (F.out.set (g:=g) (.inl (by omega)) 13 jal);replace BX:Hid (zP ((((((((((w17.setCell ⟨g,0,none⟩ (.slice Q0 n u0)).setCell ⟨g,1,none⟩ (.int .i64 (n:Int))).setCell ⟨g,2,none⟩ (.int .i64 (n:Int))).setCell ⟨g,3,none⟩ (.slice R0 r0 t0)).setCell ⟨g,8,none⟩ jnv).setCell ⟨g,9,none⟩ jnl).setCell ⟨g,10,none⟩ jnh).setCell ⟨g,11,none⟩ jnb).setCell ⟨g,12,none⟩ jav).setCell ⟨g,13,none⟩ jal) g [(76,#[.slice Q0 n u0,.int .i64 (n:Int),.int .i64 (n:Int),.slice R0 r0 t0,.slice none 0 0,.int .i64 0,.int .i64 0,.slice none 0 0,jnv,jnl,jnh,jnb,jav,jal,.int .i64 0,.bool false,.int .i64 0,.int .i64 0,.int .i64 0,.bool false,.int .i64 0,.int .i64 0,.int .i64 0,.bool false])]):=za (BX.out.set 0 13 jal)
 replace F:=za (F.out.set (g:=g) (.inl (by omega)) 14 jah);replace BX:Hid (zP (((((((((((w17.setCell ⟨g,0,none⟩ (.slice Q0 n u0)).setCell ⟨g,1,none⟩ (.int .i64 (n:Int))).setCell ⟨g,2,none⟩ (.int .i64 (n:Int))).setCell ⟨g,3,none⟩ (.slice R0 r0 t0)).setCell ⟨g,8,none⟩ jnv).setCell ⟨g,9,none⟩ jnl).setCell ⟨g,10,none⟩ jnh).setCell ⟨g,11,none⟩ jnb).setCell ⟨g,12,none⟩ jav).setCell ⟨g,13,none⟩ jal).setCell ⟨g,14,none⟩ jah) g [(76,#[.slice Q0 n u0,.int .i64 (n:Int),.int .i64 (n:Int),.slice R0 r0 t0,.slice none 0 0,.int .i64 0,.int .i64 0,.slice none 0 0,jnv,jnl,jnh,jnb,jav,jal,jah,.bool false,.int .i64 0,.int .i64 0,.int .i64 0,.bool false,.int .i64 0,.int .i64 0,.int .i64 0,.bool false])]):=za (BX.out.set 0 14 jah)
 replace F:=za (F.out.set (g:=g) (.inl (by omega)) 15 jab);replace BX:Hid (zP ((((((((((((w17.setCell ⟨g,0,none⟩ (.slice Q0 n u0)).setCell ⟨g,1,none⟩ (.int .i64 (n:Int))).setCell ⟨g,2,none⟩ (.int .i64 (n:Int))).setCell ⟨g,3,none⟩ (.slice R0 r0 t0)).setCell ⟨g,8,none⟩ jnv).setCell ⟨g,9,none⟩ jnl).setCell ⟨g,10,none⟩ jnh).setCell ⟨g,11,none⟩ jnb).setCell ⟨g,12,none⟩ jav).setCell ⟨g,13,none⟩ jal).setCell ⟨g,14,none⟩ jah).setCell ⟨g,15,none⟩ jab) g [(76,#[.slice Q0 n u0,.int .i64 (n:Int),.int .i64 (n:Int),.slice R0 r0 t0,.slice none 0 0,.int .i64 0,.int .i64 0,.slice none 0 0,jnv,jnl,jnh,jnb,jav,jal,jah,jab,.int .i64 0,.int .i64 0,.int .i64 0,.bool false,.int .i64 0,.int .i64 0,.int .i64 0,.bool false])]):=za (BX.out.set 0 15 jab)
 have pc4:=(F.out.out.1.1.1.1.1.1.1.1.1.1.2).cell 4;have pc5:=(F.out.out.1.1.1.1.1.1.1.1.1.1.2).cell 5;have pc6:=(F.out.out.1.1.1.1.1.1.1.1.1.1.2).cell 6;have pc7:=(F.out.out.1.1.1.1.1.1.1.1.1.1.2).cell 7;have f0:=(F.out.out.1.1.1.2).cell 0;have f1:=(F.out.out.1.1.1.2).cell 1;have f2:=(F.out.out.1.1.1.2).cell 2;have f3:=(F.out.out.1.1.1.2).cell 3;have q_0:=(F.out.out.1.1.2).cell 0
 have q_1:=(F.out.out.1.1.2).cell 1;have q_2:=(F.out.out.1.1.2).cell 2;have q_3:=(F.out.out.1.1.2).cell 3;go_wp2_with fail;clear o0 zo0 o1 zo1 o2 zo2 o3 zo3 o8 zo8 o9 zo9 o10 zo10 o11 zo11 o12 zo12 o13 zo13 o14 zo14 o15 zo15 pc4 pc5 pc6 pc7 f0 f1 f2 f3 q_0 q_1 q_2 q_3;refine (RU.out _ u8 _ F.out.out.1.1.1.1.1.1.1.1.1.1.1.1.1.1.1.2 F.out.out.1.1.1.1.1.1.1.1.1.1.1.1.1.1.2 F.out.out.1.1.1.1.2).mono ?_
 rintro e w30 ⟨Q1,q1,u1,R1,r1,t1,rfl,h0,h1,hb,hf0,hf1⟩;unfold yW;have hq1:n=q1:=by have:=h0.1;rw [←this];exact LEN1.symm
 subst hq1;have fX3:∀b o,R1=some ⟨b,o,none⟩→g+1≤b:=fun b o e=>Nat.le_trans F.out.hiw (hf1 b o e);have fX2:∀b o,Q1=some ⟨b,o,none⟩→g+1≤b:=fun b o e=>Nat.le_trans F.out.hiw (hf0 b o e);replace F:=zd F hb;replace BX:=ze BX hb;have X2:=za h0;clear hb;have X3:=za h1;clear h0 h1 hf0 hf1;replace F:=za (F.out.plus (X2.out.off (fun b o e _=>.inr (fX2 b o e))))
 clear X2;replace F:=za (F.out.plus (X3.out.off (fun b o e _=>.inr (fX3 b o e))));clear X3;have o4:=(BX.out.1).cell 4;have zo4:=(BX.out.1).frozen 4;have o5:=(BX.out.1).cell 5;have zo5:=(BX.out.1).frozen 5;have o6:=(BX.out.1).cell 6;have zo6:=(BX.out.1).frozen 6;have o7:=(BX.out.1).cell 7;have zo7:=(BX.out.1).frozen 7;have o16:=(BX.out.1).cell 16;have zo16:=(BX.out.1).frozen 16
 have o17:=(BX.out.1).cell 17;have zo17:=(BX.out.1).frozen 17;have o18:=(BX.out.1).cell 18;have zo18:=(BX.out.1).frozen 18;have o19:=(BX.out.1).cell 19;have zo19:=(BX.out.1).frozen 19;have o20:=(BX.out.1).cell 20;have zo20:=(BX.out.1).frozen 20;have o21:=(BX.out.1).cell 21;have zo21:=(BX.out.1).frozen 21;have o22:=(BX.out.1).cell 22;have zo22:=(BX.out.1).frozen 22;have o23:=(BX.out.1).cell 23
 have zo23:=(BX.out.1).frozen 23;replace F:=za (F.out.set (g:=g) (.inl (by omega)) 4 (.slice Q1 n u1));replace BX:Hid (zP (w30.setCell ⟨g,4,none⟩ (.slice Q1 n u1)) g [(76,#[.slice Q0 n u0,.int .i64 (n:Int),.int .i64 (n:Int),.slice R0 r0 t0,.slice Q1 n u1,.int .i64 0,.int .i64 0,.slice none 0 0,jnv,jnl,jnh,jnb,jav,jal,jah,jab,.int .i64 0,.int .i64 0,.int .i64 0,.bool false,.int .i64 0,.int .i64 0,.int .i64 0,.bool false])]):=za (BX.out.set 0 4 (.slice Q1 n u1))
 replace F:=za (F.out.set (g:=g) (.inl (by omega)) 5 (.int .i64 (n:Int)));replace BX:Hid (zP ((w30.setCell ⟨g,4,none⟩ (.slice Q1 n u1)).setCell ⟨g,5,none⟩ (.int .i64 (n:Int))) g [(76,#[.slice Q0 n u0,.int .i64 (n:Int),.int .i64 (n:Int),.slice R0 r0 t0,.slice Q1 n u1,.int .i64 (n:Int),.int .i64 0,.slice none 0 0,jnv,jnl,jnh,jnb,jav,jal,jah,jab,.int .i64 0,.int .i64 0,.int .i64 0,.bool false,.int .i64 0,.int .i64 0,.int .i64 0,.bool false])]):=za (BX.out.set 0 5 (.int .i64 (n:Int)))
 replace F:=za (F.out.set (g:=g) (.inl (by omega)) 6 (.int .i64 (n:Int)));replace BX:Hid (zP (((w30.setCell ⟨g,4,none⟩ (.slice Q1 n u1)).setCell ⟨g,5,none⟩ (.int .i64 (n:Int))).setCell ⟨g,6,none⟩ (.int .i64 (n:Int))) g [(76,#[.slice Q0 n u0,.int .i64 (n:Int),.int .i64 (n:Int),.slice R0 r0 t0,.slice Q1 n u1,.int .i64 (n:Int),.int .i64 (n:Int),.slice none 0 0,jnv,jnl,jnh,jnb,jav,jal,jah,jab,.int .i64 0,.int .i64 0,.int .i64 0,.bool false,.int .i64 0,.int .i64 0,.int .i64 0,.bool false])]):=za (BX.out.set 0 6 (.int .i64 (n:Int)))
 replace F:=za (F.out.set (g:=g) (.inl (by omega)) 7 (.slice R1 r1 t1));replace BX:Hid (zP ((((w30.setCell ⟨g,4,none⟩ (.slice Q1 n u1)).setCell ⟨g,5,none⟩ (.int .i64 (n:Int))).setCell ⟨g,6,none⟩ (.int .i64 (n:Int))).setCell ⟨g,7,none⟩ (.slice R1 r1 t1)) g [(76,#[.slice Q0 n u0,.int .i64 (n:Int),.int .i64 (n:Int),.slice R0 r0 t0,.slice Q1 n u1,.int .i64 (n:Int),.int .i64 (n:Int),.slice R1 r1 t1,jnv,jnl,jnh,jnb,jav,jal,jah,jab,.int .i64 0,.int .i64 0,.int .i64 0,.bool false,.int .i64 0,.int .i64 0,.int .i64 0,.bool false])]):=za (BX.out.set 0 7 (.slice R1 r1 t1))
 replace F:=za (F.out.set (g:=g) (.inl (by omega)) 16 rnv);replace BX:Hid (zP (((((w30.setCell ⟨g,4,none⟩ (.slice Q1 n u1)).setCell ⟨g,5,none⟩ (.int .i64 (n:Int))).setCell ⟨g,6,none⟩ (.int .i64 (n:Int))).setCell ⟨g,7,none⟩ (.slice R1 r1 t1)).setCell ⟨g,16,none⟩ rnv) g [(76,#[.slice Q0 n u0,.int .i64 (n:Int),.int .i64 (n:Int),.slice R0 r0 t0,.slice Q1 n u1,.int .i64 (n:Int),.int .i64 (n:Int),.slice R1 r1 t1,jnv,jnl,jnh,jnb,jav,jal,jah,jab,rnv,.int .i64 0,.int .i64 0,.bool false,.int .i64 0,.int .i64 0,.int .i64 0,.bool false])]):=za (BX.out.set 0 16 rnv)
 replace F:=za (F.out.set (g:=g) (.inl (by omega)) 17 rnl);replace BX:Hid (zP ((((((w30.setCell ⟨g,4,none⟩ (.slice Q1 n u1)).setCell ⟨g,5,none⟩ (.int .i64 (n:Int))).setCell ⟨g,6,none⟩ (.int .i64 (n:Int))).setCell ⟨g,7,none⟩ (.slice R1 r1 t1)).setCell ⟨g,16,none⟩ rnv).setCell ⟨g,17,none⟩ rnl) g [(76,#[.slice Q0 n u0,.int .i64 (n:Int),.int .i64 (n:Int),.slice R0 r0 t0,.slice Q1 n u1,.int .i64 (n:Int),.int .i64 (n:Int),.slice R1 r1 t1,jnv,jnl,jnh,jnb,jav,jal,jah,jab,rnv,rnl,.int .i64 0,.bool false,.int .i64 0,.int .i64 0,.int .i64 0,.bool false])]):=za (BX.out.set 0 17 rnl)
 replace F:=za (F.out.set (g:=g) (.inl (by omega)) 18 rnh);replace BX:Hid (zP (((((((w30.setCell ⟨g,4,none⟩ (.slice Q1 n u1)).setCell ⟨g,5,none⟩ (.int .i64 (n:Int))).setCell ⟨g,6,none⟩ (.int .i64 (n:Int))).setCell ⟨g,7,none⟩ (.slice R1 r1 t1)).setCell ⟨g,16,none⟩ rnv).setCell ⟨g,17,none⟩ rnl).setCell ⟨g,18,none⟩ rnh) g [(76,#[.slice Q0 n u0,.int .i64 (n:Int),.int .i64 (n:Int),.slice R0 r0 t0,.slice Q1 n u1,.int .i64 (n:Int),.int .i64 (n:Int),.slice R1 r1 t1,jnv,jnl,jnh,jnb,jav,jal,jah,jab,rnv,rnl,rnh,.bool false,.int .i64 0,.int .i64 0,.int .i64 0,.bool false])]):=za (BX.out.set 0 18 rnh)
 replace F:=za (F.out.set (g:=g) (.inl (by omega)) 19 rnb);replace BX:Hid (zP ((((((((w30.setCell ⟨g,4,none⟩ (.slice Q1 n u1)).setCell ⟨g,5,none⟩ (.int .i64 (n:Int))).setCell ⟨g,6,none⟩ (.int .i64 (n:Int))).setCell ⟨g,7,none⟩ (.slice R1 r1 t1)).setCell ⟨g,16,none⟩ rnv).setCell ⟨g,17,none⟩ rnl).setCell ⟨g,18,none⟩ rnh).setCell ⟨g,19,none⟩ rnb) g [(76,#[.slice Q0 n u0,.int .i64 (n:Int),.int .i64 (n:Int),.slice R0 r0 t0,.slice Q1 n u1,.int .i64 (n:Int),.int .i64 (n:Int),.slice R1 r1 t1,jnv,jnl,jnh,jnb,jav,jal,jah,jab,rnv,rnl,rnh,rnb,.int .i64 0,.int .i64 0,.int .i64 0,.bool false])]):=za (BX.out.set 0 19 rnb)
 replace F:=za (F.out.set (g:=g) (.inl (by omega)) 20 rav);replace BX:Hid (zP (((((((((w30.setCell ⟨g,4,none⟩ (.slice Q1 n u1)).setCell ⟨g,5,none⟩ (.int .i64 (n:Int))).setCell ⟨g,6,none⟩ (.int .i64 (n:Int))).setCell ⟨g,7,none⟩ (.slice R1 r1 t1)).setCell ⟨g,16,none⟩ rnv).setCell ⟨g,17,none⟩ rnl).setCell ⟨g,18,none⟩ rnh).setCell ⟨g,19,none⟩ rnb).setCell ⟨g,20,none⟩ rav) g [(76,#[.slice Q0 n u0,.int .i64 (n:Int),.int .i64 (n:Int),.slice R0 r0 t0,.slice Q1 n u1,.int .i64 (n:Int),.int .i64 (n:Int),.slice R1 r1 t1,jnv,jnl,jnh,jnb,jav,jal,jah,jab,rnv,rnl,rnh,rnb,rav,.int .i64 0,.int .i64 0,.bool false])]):=za (BX.out.set 0 20 rav)
 replace F:=za (F.out.set (g:=g) (.inl (by omega)) 21 ral);replace BX:Hid (zP ((((((((((w30.setCell ⟨g,4,none⟩ (.slice Q1 n u1)).setCell ⟨g,5,none⟩ (.int .i64 (n:Int))).setCell ⟨g,6,none⟩ (.int .i64 (n:Int))).setCell ⟨g,7,none⟩ (.slice R1 r1 t1)).setCell ⟨g,16,none⟩ rnv).setCell ⟨g,17,none⟩ rnl).setCell ⟨g,18,none⟩ rnh).setCell ⟨g,19,none⟩ rnb).setCell ⟨g,20,none⟩ rav).setCell ⟨g,21,none⟩ ral) g [(76,#[.slice Q0 n u0,.int .i64 (n:Int),.int .i64 (n:Int),.slice R0 r0 t0,.slice Q1 n u1,.int .i64 (n:Int),.int .i64 (n:Int),.slice R1 r1 t1,jnv,jnl,jnh,jnb,jav,jal,jah,jab,rnv,rnl,rnh,rnb,rav,ral,.int .i64 0,.bool false])]):=za (BX.out.set 0 21 ral)
 replace F:=za (F.out.set (g:=g) (.inl (by omega)) 22 rah);replace BX:Hid (zP (((((((((((w30.setCell ⟨g,4,none⟩ (.slice Q1 n u1)).setCell ⟨g,5,none⟩ (.int .i64 (n:Int))).setCell ⟨g,6,none⟩ (.int .i64 (n:Int))).setCell ⟨g,7,none⟩ (.slice R1 r1 t1)).setCell ⟨g,16,none⟩ rnv).setCell ⟨g,17,none⟩ rnl).setCell ⟨g,18,none⟩ rnh).setCell ⟨g,19,none⟩ rnb).setCell ⟨g,20,none⟩ rav).setCell ⟨g,21,none⟩ ral).setCell ⟨g,22,none⟩ rah) g [(76,#[.slice Q0 n u0,.int .i64 (n:Int),.int .i64 (n:Int),.slice R0 r0 t0,.slice Q1 n u1,.int .i64 (n:Int),.int .i64 (n:Int),.slice R1 r1 t1,jnv,jnl,jnh,jnb,jav,jal,jah,jab,rnv,rnl,rnh,rnb,rav,ral,rah,.bool false])]):=za (BX.out.set 0 22 rah)
 replace F:=za (F.out.set (g:=g) (.inl (by omega)) 23 rab);replace BX:Hid (zP ((((((((((((w30.setCell ⟨g,4,none⟩ (.slice Q1 n u1)).setCell ⟨g,5,none⟩ (.int .i64 (n:Int))).setCell ⟨g,6,none⟩ (.int .i64 (n:Int))).setCell ⟨g,7,none⟩ (.slice R1 r1 t1)).setCell ⟨g,16,none⟩ rnv).setCell ⟨g,17,none⟩ rnl).setCell ⟨g,18,none⟩ rnh).setCell ⟨g,19,none⟩ rnb).setCell ⟨g,20,none⟩ rav).setCell ⟨g,21,none⟩ ral).setCell ⟨g,22,none⟩ rah).setCell ⟨g,23,none⟩ rab) g [(76,#[.slice Q0 n u0,.int .i64 (n:Int),.int .i64 (n:Int),.slice R0 r0 t0,.slice Q1 n u1,.int .i64 (n:Int),.int .i64 (n:Int),.slice R1 r1 t1,jnv,jnl,jnh,jnb,jav,jal,jah,jab,rnv,rnl,rnh,rnb,rav,ral,rah,rab])]):=za (BX.out.set 0 23 rab)
 have ld:=(BX.out.1).load76 rfl;have zz:At ((((((((((((w30.setCell ⟨g,4,none⟩ (.slice Q1 n u1)).setCell ⟨g,5,none⟩ (.int .i64 (n:Int))).setCell ⟨g,6,none⟩ (.int .i64 (n:Int))).setCell ⟨g,7,none⟩ (.slice R1 r1 t1)).setCell ⟨g,16,none⟩ rnv).setCell ⟨g,17,none⟩ rnl).setCell ⟨g,18,none⟩ rnh).setCell ⟨g,19,none⟩ rnb).setCell ⟨g,20,none⟩ rav).setCell ⟨g,21,none⟩ ral).setCell ⟨g,22,none⟩ rah).setCell ⟨g,23,none⟩ rab) (g0+2) 76 #[.slice none 0 0,.int .i64 0,.int .i64 0,.slice none 0 0,.slice none 0 0,.int .i64 0,.int .i64 0,.slice none 0 0,.int .i64 0,.int .i64 0,.int .i64 0,.bool false,.int .i64 0,.int .i64 0,.int .i64 0,.bool false,.int .i64 0,.int .i64 0,.int .i64 0,.bool false,.int .i64 0,.int .i64 0,.int .i64 0,.bool false]:=F.out.out.1.1.1.1.1.1.1.1.1.1.2
 obtain ⟨WG,hWG⟩:∃W,((((((((((((w30.setCell ⟨g,4,none⟩ (.slice Q1 n u1)).setCell ⟨g,5,none⟩ (.int .i64 (n:Int))).setCell ⟨g,6,none⟩ (.int .i64 (n:Int))).setCell ⟨g,7,none⟩ (.slice R1 r1 t1)).setCell ⟨g,16,none⟩ rnv).setCell ⟨g,17,none⟩ rnl).setCell ⟨g,18,none⟩ rnh).setCell ⟨g,19,none⟩ rnb).setCell ⟨g,20,none⟩ rav).setCell ⟨g,21,none⟩ ral).setCell ⟨g,22,none⟩ rah).setCell ⟨g,23,none⟩ rab)=W:=⟨_,rfl⟩
 rw [hWG] at ld zz F BX;go_wp2_with (show wpList _ _ _ (⟨_,.load 76 _,_,_,_,none⟩::_) _ _;refine zlH.out ?_)
 try rw [hWG]
 clear hWG;refine zlH.mk ?_;refine qg rfl 76 _ rfl _ _ _ rfl ld ?_;go_wp2_with (show wpList _ _ _ (⟨_,.store 76 _ _,_,_,_,none⟩::_) _ _;refine yI rfl _ _ rfl (g0+2) _ _ rfl rfl zz rfl rfl rfl ?_;intro WZ hoZ haZ)
 exact bodyPost_ret (zae rfl _ _ (g0+2) _ rfl haZ rfl) rfl ⟨⟨_,rfl,Q0,u0,R0,r0,t0,Q1,u1,R1,r1,t1,rfl,hoZ.nums (F.out.out.1.1.1.2) (fun b o e _=>by have:=fX0 b o e;omega),hoZ.nums (F.out.out.1.1.2) (fun b o e _=>by have:=fX1 b o e;omega),hoZ.nums (F.out.out.1.2) (fun b o e _=>by have:=fX2 b o e;omega),hoZ.nums (F.out.out.2) (fun b o e _=>by have:=fX3 b o e;omega),fun q o e=>by have:=fX0 q o e;omega,fun q o e=>by have:=fX1 q o e;omega,fun q o e=>by have:=fX2 q o e;omega,fun q o e=>by have:=fX3 q o e;omega⟩,by rw [hg0];exact L.Below.only (L.Below.then BB (by rw [hg];exact F.out.out.1.1.1.1.1.1.1.1.1.1.1.1.1.1.1.1.1.1.1.1) (by omega)) hoZ (by omega)⟩
end
theorem zbU {r:PR} (h:J8 r) (h1:1≤r.n) (h4:r.n≤4):r.ok:=by
 obtain ⟨X,S,hx,hy,hs,ht,hp⟩:=h;exact ⟨h4,⟨h1,by omega,h1,by omega,hp.1⟩,⟨h1,by omega,h1,by omega,hs.1⟩⟩
structure ES where
 on:Bool
 pn:Int
 ps:Int
 r:PR
 m:Int
 st:Int
def zdJ (st:Int) (ru:Bool):Int×Int:=if ru=true then (3,st) else (if 65536<st+1 then 3 else 1,st+1)
def zh7 (x:ES) (k s n:Int) (l:List Int):ES :=
 if k=1 then ⟨true,n,s,zbg n.toNat l,1,0⟩ else ⟨true,n,s,yA k x.r l,(zdJ x.st (Z6 (yA k x.r l))).1,(zdJ x.st (Z6 (yA k x.r l))).2⟩
def yi (x:ES) (k s n:Int) (l:List Int):Int:=if Zb x.on x.pn x.ps k s n l≠0 then Zb x.on x.pn x.ps k s n l else if x.m=3∧k≠1 then 10 else 0
def zaJ (x:ES) (k s n:Int) (l:List Int):ES:=if yi x k s n l=0 then zh7 x k s n l else x
def JA (x:ES) (k s n:Int) (l:List Int):zeA:=if yi x k s n l=0 then ZM (zh7 x k s n l).m (zh7 x k s n l).r s else zbl
structure OkE (x:ES):Prop where
 ps:0≤x.ps∧x.ps≤4294967295
 off:x.on=false→x.m=0∧x.st=0
 run:x.on=true→((x.m=1∧0≤x.st∧x.st≤65536)∨(x.m=3∧0≤x.st∧x.st≤65537))∧1≤x.r.n∧x.r.n≤4∧J8 x.r∧(x.r.n:Int)=x.pn
theorem OkE.calm {x:ES} (h:OkE x):zcI x.m x.st:=by
 cases e:x.on with
 | false=>exact .inl (h.off e)
 | true =>
  rcases (h.run e).1 with h|h
  ·exact .inr (.inl h)
  ·exact .inr (.inr h)
theorem zdg {on:Bool} {pn ps k s n:Int} {l:List Int} (h:Zb on pn ps k s n l=0):jQ k s n l=0∧zQ k s n l=true∧(k≠1→on=true∧n=pn):=by
 unfold Zb at h
 split at h
 ·rename_i h1;exact absurd h h1
 ·rename_i h1
  have h2:jQ k s n l=0:=by omega
  refine ⟨h2,?_,fun hk=>?_⟩
  ·cases e:zQ k s n l with
   | true=>rfl
   | false=>unfold jQ at h2;rw [if_pos e] at h2;cases h2
  ·rw [if_neg hk] at h
   cases on with
   | false=>rw [if_pos rfl] at h;cases h
   | true =>
    rw [if_neg (by simp)] at h;refine ⟨rfl,?_⟩
    split at h
    ·split at h
     ·assumption
     ·cases h
    ·split at h
     ·split at h
      ·split at h
       ·assumption
       ·cases h
      ·cases h
     ·cases h
theorem zjc {s:Int} {n:Nat} {l:List Int} (hok:zQ 3 s n l=true) (h:jQ 3 s n l=0):0<l.getD n 0:=by
 obtain ⟨_,_,_,_,_,hk⟩:=zX hok;have hl:l.length=n+2:=by omega
 obtain ⟨r,z,_,h1,_,_,hr,_⟩:=zi1 hl;unfold jQ at h;rw [if_neg (by rw [hok];simp)] at h
 split at h
 ·cases h
 ·rw [if_pos rfl] at h
  split at h
  ·cases h
  ·rename_i h2
   unfold zaU zdf at h2;rw [Int.toNat_natCast,List.getD_eq_getElem?_getD,List.getD_eq_getElem?_getD,h1] at h2;rw [List.getD_eq_getElem?_getD,hr];simp at h2 ⊢;omega
theorem zjh {s:Int} {n:Nat} {l:List Int} (hok:zQ 2 s n l=true):l.length=n*n+n*n:=by
 obtain ⟨_,_,_,_,_,hk⟩:=zX hok;have:(l.length:Int)=2*(n:Int)*n:=by omega
 rw [Int.mul_assoc] at this;have e:((n*n:Nat):Int)=(n:Int)*n:=by simp
 rw [←e] at this;omega
theorem zji {s:Int} {n:Nat} {l:List Int} (hok:zQ 3 s n l=true):l.length=n+2:=by
 obtain ⟨_,_,_,_,_,hk⟩:=zX hok;omega
theorem zki {s:Int} {n:Nat} {l:List Int} (hok:zQ 1 s n l=true):l.length=n+n*n:=by
 obtain ⟨_,_,_,_,_,hk⟩:=zX hok;have:(l.length:Int)=(n:Int)+(n:Int)*n:=by omega
 exact_mod_cast this
theorem zaz {k s:Int} {r:PR} {l:List Int} (hk:k≠1) (hok:zQ k s r.n l=true) (hso:jQ k s r.n l=0) (h:J8 r):J8 (yA k r l):=by
 unfold yA
 by_cases h2:k=2
 ·subst h2
  rw [if_pos rfl];exact zgD (zjh hok) h
 ·rw [if_neg h2]
  obtain ⟨_,_,_,_,_,hkl⟩:=zX hok;have h3:k=3:=by omega
  subst h3;exact zgE (zji hok) (zjc hok hso) h
theorem Vz (k:Int) (r:PR) (l:List Int):(yA k r l).n=r.n:=by unfold yA ziP zjd;split<;>rfl
theorem OkE.take {x:ES} (h:OkE x) (k s n:Int) (l:List Int):OkE (zaJ x k s n l):=by
 unfold zaJ
 split
 ·rename_i ht
  unfold yi at ht
  split at ht
  ·rename_i h1;exact absurd ht h1
  ·rename_i h1
   split at ht
   ·cases ht
   ·rename_i h2
    obtain ⟨hso,hok,hnx⟩:=zdg (show Zb x.on x.pn x.ps k s n l=0 by omega);obtain ⟨hn1,hn4,hs0,hs1,_,_⟩:=zX hok;obtain ⟨q,rfl⟩:∃q:Nat,n=q:=⟨n.toNat,by omega⟩
    unfold zh7
    by_cases hk:k=1
    ·subst hk
     rw [if_pos rfl];refine ⟨⟨hs0,hs1⟩,fun e=>(by cases e),fun _=>⟨.inl ⟨rfl,Int.le_refl 0,by show (0:Int)≤65536;decide⟩,by show 1≤(q:Int).toNat;omega,by show (q:Int).toNat≤4;omega,?_,by show ((q:Int).toNat:Int)=q;omega⟩⟩;rw [Int.toNat_natCast];exact ziv (zki hok)
    ·rw [if_neg hk]
     obtain ⟨hon,hnp⟩:=hnx hk;obtain ⟨hm,hr1,hr4,hb,hrn⟩:=h.run hon
     have hm1:x.m=1∧0≤x.st∧x.st≤65536:=by
      rcases hm with hm|hm
      ·exact hm
      ·exact absurd ⟨hm.1,hk⟩ h2
     have hq:(q:Int)=(x.r.n:Int):=by rw [hrn];exact hnp
     rw [hq] at hok hso;have hb':=zaz hk hok hso hb;refine ⟨⟨hs0,hs1⟩,fun e=>(by cases e),fun _=>⟨?_,by show 1≤(yA k x.r l).n;rw [Vz];exact hr1,by show (yA k x.r l).n≤4;rw [Vz];exact hr4,hb', by show ((yA k x.r l).n:Int)=q;rw [Vz,hq]⟩⟩;dsimp only;unfold zdJ
     by_cases hru:Z6 (yA k x.r l)=true
     ·rw [if_pos hru];right;dsimp only;omega
     ·rw [if_neg hru]
      by_cases hst:65536<x.st+1
      ·rw [if_pos hst];right;dsimp only;omega
      ·rw [if_neg hst];left;dsimp only;omega
 ·exact h
theorem zhL {W:World} {B:Nat} {r:PR} {v:Value} {k s:Int} {A:Option Addr} {mm c:Nat} {l:List Int} (h:qG W B r v) (h1:1≤r.n) (hb:J8 r) (hk:k≠1) (hx:zU W A mm c l) (hok:zQ k s r.n l=true) (hso:jQ k s r.n l=0) :
  Calls Tryz.prog 107 #[v,qV k s r.n A mm c] W fun e w'=>(∃u,e=.returned (.tuple #[u,.bool true])∧qG w' W.heap.size (yA k r l) u)∧Below W.heap.size W w':=by
 have hbn:=zaz hk hok hso hb;have hok2:=zbU hbn (by rw [Vz];exact h1) (by rw [Vz];exact h.1.1);obtain ⟨⟨h4,hp,hs⟩,A0,c0,A1,m1,c1,B0,d0,B1,k1,d1,rfl,n0,n1,n2,n3,_⟩:=h;unfold yA at hok2 ⊢
 by_cases h2:k=2
 ·subst h2
  rw [if_pos rfl] at hok2 ⊢;exact (zgi _ h4 _ _ _ _ _ _ _ _ _ _ _ _ _ _ hp hs _ _ _ _ _ n0 n1 n2 n3 s A mm c l hx hok hso).mono fun e w' q=>⟨q.1.imp fun u z=>⟨z.1,hok2,z.2⟩,q.2⟩
 ·rw [if_neg h2] at hok2 ⊢
  obtain ⟨_,_,_,_,_,hkl⟩:=zX hok;have h3:k=3:=by omega
  subst h3;exact (zgj _ h4 _ _ _ _ _ _ _ _ _ _ _ _ _ _ hp hs _ _ _ _ _ n0 n1 n2 n3 s A mm c l hx hok hso).mono fun e w' q=>⟨q.1.imp fun u z=>⟨z.1,hok2,z.2⟩,q.2⟩
end Go.Proofs.YtcoiklclbljjeaaGreatDoor.L
