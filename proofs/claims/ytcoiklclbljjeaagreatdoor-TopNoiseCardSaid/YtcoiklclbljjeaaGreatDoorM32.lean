/- Lemmas of the card's proof. -/
import Derived.Test.YtcoiklclbljjeaaGreatDoorM31
set_option linter.unusedVariables false
set_option linter.unusedSimpArgs false
set_option maxRecDepth 100000
set_option maxHeartbeats 16000000
namespace Go.Proofs.YtcoiklclbljjeaaGreatDoor.L
open Go.RowKit
theorem zcV (x:Num) (w:World):Calls Tryz.prog 56 #[x.val] w fun e w'=>e=.returned x.bad∧Below w.heap.size w w':=by
 have hu:=Tryz.underlying71;obtain ⟨xv,xl,xh,xb⟩:=x;unfold Num.val;dsimp only;go_enter Tryz.func56,Tryz.ntmps56;go_wp2_with fail;have A0:=za (At.new w 71 #[xv,xl,xh,xb]);have B0:=za (zg (Below.refl w.heap.size w) (.cells #[xv,xl,xh,xb] 71));obtain ⟨W0,hW0⟩:=zc ((w.alloc (.cells #[xv,xl,xh,xb] 71)));have hWg:=za (show W0.heap.size=w.heap.size+1 by rw [←hW0];simp);rw [hW0] at A0 B0 ⊢
 clear hW0;obtain ⟨g,hg⟩:=zc (w.heap.size);rw [hg] at A0 B0 hWg
 try simp only [hg]
 obtain ⟨x0,x1,x2,x3⟩:=A0.out.four;exact XaC
theorem zbd (A:Option Addr) (n c:Nat) (xs:List Num) (hn:n≤1000000) (w:World) (hx:zk w A n c xs) :
  Calls Tryz.prog 90 #[.slice A n c,.func (.func 56) #[] #[]] w fun e w'=>(∃r:Int,e=.returned r∧-1≤r∧r≤1000000∧decide (0≤r)=xs.any Num.bad)∧Below w.heap.size w w':=by
 have HX:=za hx;have LX:=za hx.1;have hcap:=hx.2.1;clear hx;have hu:=Tryz.underlying71;go_enter Tryz.func90,Tryz.ntmps90;go_wp2_with fail
 go_loopw [4,5,8] (fun v _ i wr=>∃k:Nat,k≤n∧i=.int .i64 k∧Hid ((xs.take k).any Num.bad=false)∧Hid (Below w.heap.size w wr)) (fun _ _ i _=>n-(intOf i).toNat)
 case atStart=>exact ⟨0,by omega,rfl,by simp [Hid],za (Below.refl _ _)⟩
 case round =>
  obtain ⟨k,hk,rfl,HK,HB⟩:=hrel
  by_cases hlt:k<n
  ·obtain ⟨b,o,x,rfl,hxk,x0,x1,x2,x3⟩:=(HX.out.below HB.out).at_ hlt
   have C:=za (fun W=>zcV x W);have HA0:=za (fun h:x.bad=true=>(List.any_eq_true (p:=Num.bad) (l:=xs)).2 ⟨x,List.mem_of_getElem? hxk,h⟩);have HA1:=za (fun h:x.bad=false=>show (xs.take (k+1)).any Num.bad=false by rw [List.take_add_one,hxk];simp [HK.out,h]);obtain ⟨xv,xl,xh,xb⟩:=x;unfold Num.val at C;dsimp only at C HA0 HA1 x0 x1 x2 x3;clear hxk;go_wp2_with fail
   refine (C.out _).mono ?_;cases xb with
   | true =>
    have HA:=za (HA0.out rfl);rintro e w' ⟨rfl,hb⟩;have HB2:=za (zi HB.out hb);clear hb x0 x1 x2 x3 HA0 HA1;go_wp2_with fail;go_ret;exact ⟨⟨k,rfl,by omega,by omega,by rw [HA.out];simp⟩,HB2.out⟩
   | false =>
    have HA:=za (HA1.out rfl);rintro e w' ⟨rfl,hb⟩;have HB2:=za (zi HB.out hb);clear hb x0 x1 x2 x3 HA0 HA1 HK;go_wp2_with fail;go_roundw
    case rel=>exact ⟨k+1,by omega,by go_num,HA,HB2⟩
    case measure=>simp [intOf];omega
  ·have e:xs.take k=xs:=List.take_of_length_le (by rw [LX.out];omega)
   have HK2:=za (e▸HK.out);clear e HK;go_wp2_with fail;go_ret;exact ⟨⟨-1,rfl,by omega,by omega,by rw [HK2.out];rfl⟩,HB.out⟩
theorem Y6 (A:Option Addr) (n c:Nat) (xs:List Num) (hn:n≤1000000) (w:World) (hx:zk w A n c xs) :
  Calls Tryz.prog 57 #[.slice A n c,.func (.func 56) #[] #[]] w fun e w'=>e=.returned (.bool (xs.any Num.bad))∧Below w.heap.size w w':=by
 have C:=za (zbd A n c xs hn w hx);clear hx;go_enter Tryz.func57,Tryz.ntmps57;go_wp2_with fail;refine C.out.mono ?_;rintro e w' ⟨⟨r,rfl,h1,h2,h3⟩,hb⟩;have HD:=za h3;have HB:=za hb;clear h3 hb;go_wp2_with fail;go_ret;exact ⟨by show Ending.returned (.bool (decide (0≤r)))=_;rw [HD.out],HB.out⟩
theorem Xbk {P:Prop} (h:P:=by
 have E1:r=true:=by rw [E];rfl
 clear E;go_wp2_with fail;go_ret;have hh:=F.out.hiw;have hB:=F.out.out.1.1.1.1;exact ⟨by rw [E1];rfl,by first | (rw [hg];exact (hB.alloc (by omega) _))|exact (hB.alloc (by omega) _)⟩) : P := h
theorem XaR {P:Prop} (h:P:=by
 have E1:r=true:=by rw [E];rfl
 clear E;go_wp2_with fail;go_ret;have hh:=F.out.hiw;have hB:=F.out.out.1.1.1.1;exact ⟨by rw [E1];rfl,by first | (rw [hg];exact ((hB.alloc (by omega) _).alloc (by simp;omega) _))|exact ((hB.alloc (by omega) _).alloc (by simp;omega) _)⟩) : P := h
section
attribute [local go_sem] Oper.semAt_some
theorem qP {P:Program} {ops:Array Oper} {C:World→Prop} {Q:Act→Prop} {a:Act} {o:Oper} {rest:List Oper} (t:TypeId) (x:Operand) (ho:o.op=.load t x) (b i:Nat) (cs:Array Value) (hx:a.eval x=.pointer (some ⟨b,i,none⟩)) (hw:Region.wanted o (yielded ops a.tmps)=true)
  (hr:∀w,C w→(Instr.loadAt t (.pointer (some ⟨b,i,none⟩))).run P w=.ok (.agg cs) w) (h:wpQuiet P ops C Q rest (a.put o.dst (.agg cs))):wpQuiet P ops C Q (o::rest) a:=by
 unfold wpQuiet;rw [if_pos hw];refine ⟨.agg cs,fun w hw=>?_,h⟩;unfold Oper.quietAt execOp;simp only [ho,hx,hr w hw,Sem.run_bind,Sem.run_pure,Result.andThen_ok];exact ⟨rfl,rfl⟩
theorem At.but {w:World} {G:List Nat} {g:Nat} {t:TypeId} {cs:Array Value} (h:At w g t cs) (hg:g∉G) (x:But w G):At x.w g t cs:=(x.p.block g h.lt hg).trans h
theorem yZ {P:Program} {ops:Array Oper} {Q:Exit→Act→World→Prop} {w0:World} {G L:List Nat} {i:Nat} {o:Oper} {r:List zF} {a:Act} {w:World} (hg:Region.wanted o (yielded ops a.tmps)=true) (h:∀w1,Below w.heap.size w w1→∀K:Act→World→Prop,(∀a' w', zC w1 (L++G) w'→qp P ops w0 G Q L r a' w'→K a' w')→o.wp P a w1 K Q):qp P ops w0 G Q L (.tl i o::r) a w:=by
 rw [vk];intro w1 hw1;rw [if_pos hg];exact h w1 hw1 _ fun a' w' h1 h2=>⟨fun _=>h1,[],by simp,h2⟩
theorem zgf {w:World} {g:Nat} {a0 a1 a2 a3 a4 a5 a6 a7 a8 a9 a10 a11 a12 a13 a14 a15 a16 a17 a18 a19 a20 a21 a22 a23:Value} (h:At w g 76 #[a0,a1,a2,a3,a4,a5,a6,a7,a8,a9,a10,a11,a12,a13,a14,a15,a16,a17,a18,a19,a20,a21,a22,a23]):(Instr.loadAt 74 (.pointer (some ⟨g,8,none⟩))).run Tryz.prog w=.ok (.agg #[a8,a9,a10,a11,a12,a13,a14,a15,a16,a17,a18,a19,a20,a21,a22,a23]) w:=by
 have h1:(isAgg 74).run Tryz.prog w=.ok true w:=by kernel_rfl
 have h2:(Go.sizeOf 74).run Tryz.prog w=.ok 16 w:=by kernel_rfl
 exact zaN (P:=Tryz.prog) (w:=w) 74 g 8 [a8,a9,a10,a11,a12,a13,a14,a15,a16,a17,a18,a19,a20,a21,a22,a23] h1 h2 (fun j v hj=>by
  rw [h.cell,List.getElem?_toArray,Nat.add_comm];exact hj)
def zbm (n:Nat) (x p y s:List Num) (a b c d:Num):Bool:=a.bad || (b.bad || (c.bad || (d.bad || (jw n x p++(jw n y s++(p++s))).any Num.bad)))
theorem zbD {n:Nat} {x m:List Num} (h:zt n n m) (hx:x.length=n) (hn:n≤4):0<(jw n x m).length∧(jw n x m).length≤20:=by
 have h1:=Jv (x:=x) h (Nat.le_refl n);have h2:n*n≤4*4:=Nat.mul_le_mul hn hn;have h3:=h.r1;have h4:x.length≤(jw n x m).length:=by unfold jw yg;rw [List.length_append];omega
 unfold jw at *;omega
theorem zd8 (n:Nat) (hn:n≤4) (A0:Option Addr) (c0:Nat) (A1:Option Addr) (m1 c1:Nat) (B0:Option Addr) (d0:Nat) (B1:Option Addr) (k1 d1:Nat) (x p y s:List Num) (hp:zt n n p) (hs:zt n n s) (a b c d:Num) (w:World) (h0:zk w A0 n c0 x) (h1:zk w A1 m1 c1 p) (h2:zk w B0 n d0 y) (h3:zk w B1 k1 d1 s) :
  Calls Tryz.prog 24 #[j6 n A0 c0 A1 m1 c1 B0 d0 B1 k1 d1 a b c d] w fun e w'=>e=.returned (.bool (zbm n x p y s a b c d))∧Below w.heap.size w w':=by
 have hn1:=hp.r1;have W0':=za (fun W h0 h1 h2 h3=>zd7 n hn A0 c0 A1 m1 c1 B0 d0 B1 k1 d1 x p y s hp hs a b c d W h0 h1 h2 h3);have W1':=za (fun W h0 h1 h2 h3=>zd6 n hn A0 c0 A1 m1 c1 B0 d0 B1 k1 d1 x p y s hp hs a b c d W h0 h1 h2 h3);have hu5:Tryz.prog.underlying 74=some (.array 2 73):=by kernel_rfl
 have hu6:=Tryz.underlying73;have D:=za (show zbm n x p y s a b c d=(a.bad || (b.bad || (c.bad || (d.bad || (jw n x p++(jw n y s++(p++s))).any Num.bad)))) from rfl);obtain ⟨r,hr⟩:=zc (zbm n x p y s a b c d);rw [hr] at D ⊢;clear hr;have hu:=Tryz.underlying76;have hu1:=Tryz.underlying67;have hu2:=Tryz.underlying69;have hu3:=Tryz.underlying65;have hu4:=Tryz.underlying71;have RI:=za (fun W=>jr n hn A0 c0 A1 m1 c1 B0 d0 B1 k1 d1 p s hp hs h1.1 h3.1 a b c d W)
 have H0:=za h0;have H1:=za h1;have H2:=za h2;have H3:=za h3;clear h0 h1 h2 h3;obtain ⟨av,al,ah,ab⟩:=a;obtain ⟨bv,bl,bh,bb⟩:=b;obtain ⟨cv,cl,ch,cb⟩:=c;obtain ⟨dv,dl,dh,db⟩:=d;unfold j6 at RI W0' W1' ⊢;dsimp only at RI W0' W1' D ⊢;have i0:∀w:World,(Instr.index 74 (.agg #[av,al,ah,ab,bv,bl,bh,bb,cv,cl,ch,cb,dv,dl,dh,db]) (.int .i64 0)).run Tryz.prog w=.ok (.agg #[av,al,ah,ab,bv,bl,bh,bb]) w:=fun _=>by kernel_rfl
 have i1:∀w:World,(Instr.index 74 (.agg #[av,al,ah,ab,bv,bl,bh,bb,cv,cl,ch,cb,dv,dl,dh,db]) (.int .i64 1)).run Tryz.prog w=.ok (.agg #[cv,cl,ch,cb,dv,dl,dh,db]) w:=fun _=>by kernel_rfl
 have E:=D.out;clear D;go_enter Tryz.func24,Tryz.ntmps24;go_wp2_with (first | (refine qX rfl 76 _ rfl _ rfl ?_;intro W9 hW9;have bx9:=At.of_new hW9)|refine qg rfl 74 _ rfl _ _ _ rfl (zgf bx9) ?_)
 clear bx9;subst hW9;obtain ⟨W0,hW0⟩:=zc ((w.alloc (.cells #[.slice A0 n c0,.int .i64 (n:Int),.int .i64 (n:Int),.slice A1 m1 c1,.slice B0 n d0,.int .i64 (n:Int),.int .i64 (n:Int),.slice B1 k1 d1,av,al,ah,ab,bv,bl,bh,bb,cv,cl,ch,cb,dv,dl,dh,db] 76)));obtain ⟨bx,b0,hsz⟩:=z6 hW0;rw [hW0];clear hW0;have F:=za (((((Off.start b0 hsz).argN b0 (H0.out)).argN b0 (H1.out)).argN b0 (H2.out)).argN b0 (H3.out))
 have BX:=za bx;clear bx b0 hsz;obtain ⟨g,hg⟩:=zc (w.heap.size);rw [hg] at F BX
 try simp only [hg]
 refine wp_loop_rounds 3 ?_;rw [rounds_succ];cases ab
 case true =>
  exact Xbk
 cases bb
 case true =>
  exact Xbk
 go_wp2_with fail;rw [rounds_succ];cases cb
 case true =>
  exact XaR
 cases db
 case true =>
  exact XaR
 go_wp2_with fail;rw [rounds_succ];go_wp2_with fail;obtain ⟨Xba,hXba⟩:=zc (((W0.alloc (.cells #[av,al,ah,.bool false,bv,bl,bh,.bool false] 73)).alloc (.cells #[cv,cl,ch,.bool false,dv,dl,dh,.bool false] 73)));obtain ⟨bx,b0,hsz⟩:=y7 hXba;rw [hXba];have lba:=F.out.hiw;replace F:=za (F.out.gotB b0 bx );replace BX:=ze BX b0;obtain ⟨ba,hba⟩:=zc (W0.heap.size);rw [hba] at F lba
 try simp only [hba]
 clear bx b0 hsz hba hXba
 try simp only [Bool.false_or] at E
 have x3:=(BX.out.1).cell 3;have x7:=(BX.out.1).cell 7;replace F:=za F.out.now;have hstart:=F.out.hiw;refine zG [] (.rd (i:=0) rfl (.tl (i:=1) rfl (.rd (i:=2) rfl (.rd (i:=3) rfl (.rd (i:=4) rfl (.rd (i:=6) rfl (.rd (i:=8) rfl (.rd (i:=9) rfl (.rd (i:=10) rfl (.rd (i:=11) rfl (.rd (i:=12) rfl (.rd (i:=13) rfl (.rd (i:=14) rfl (.rd (i:=15) rfl (.rd (i:=18) rfl (.tl (i:=5) rfl (.tl (i:=7) rfl (.tl (i:=16) rfl (.tl (i:=17) rfl (.tl (i:=19) rfl (.rd (i:=20) rfl (.tl (i:=21) rfl .nil)))))))))))))))))))))) (by kernel_rfl) (by kernel_rfl) (fun c a d v w h=>by cases d<;>exact h) (fun c a d v w h=>by cases d<;>exact h) (by simp) ?_
 have bp:=BX.out.1;refine zf ?_;refine qP 76 _ rfl _ _ _ rfl rfl (fun w' hw'=>by obtain ⟨xx,rfl⟩:=hw';exact (bp.but (by simp) xx).load76 rfl) (wpQuiet_nil ?_);refine zm rfl (fun w1 hb K hK=>?_);replace hb:=qi hb;go_simp;replace F:=zd F hb;replace BX:=ze BX hb;clear hb;refine (RI.out _).mono ?_;rintro e w2 ⟨rfl,hb⟩;refine hK _ _ ((zC.refl _ _).call hb) ?_;clear hK K;replace F:=zd F hb
 replace BX:=ze BX hb;clear hb;iterate 2 (refine zf ?_;go_big_quiet_step (fail);refine wpQuiet_nil ?_)
 iterate 2 (refine zf ?_;refine qP 76 _ rfl _ _ _ rfl rfl (fun w' hw'=>by obtain ⟨xx,rfl⟩:=hw';exact (bp.but (by simp) xx).load76 rfl) (wpQuiet_nil ?_))
 go_simp;have kx3:=fun x=>But.cell (G:=[]) x3 (by simp) x;have kx7:=fun x=>But.cell (G:=[]) x7 (by simp) x;iterate 9 (refine zf ?_;go_big_quiet_step (fail);refine wpQuiet_nil ?_)
 clear kx3 kx7;clear bp x3 x7;refine yZ rfl (fun w3 hb K hK=>?_);go_simp;replace F:=zd F hb;replace BX:=ze BX hb;clear hb;refine (W0'.out _ F.out.out.1.1.1.1.2 F.out.out.1.1.1.2 F.out.out.1.1.2 F.out.out.1.2).mono ?_;rintro e w4 ⟨Q0,q0,u0,rfl,ho,hb⟩;refine hK _ _ ((zC.refl _ _).call hb) ?_;clear hK K;replace F:=zd F hb;replace BX:=ze BX hb;have V0:=za ho.nums;clear hb ho;refine yZ rfl (fun w5 hb K hK=>?_)
 go_simp;replace F:=zd F hb;replace BX:=ze BX hb;replace V0:=za (V0.out.below hb);clear hb;refine (W1'.out _ F.out.out.1.1.1.1.2 F.out.out.1.1.1.2 F.out.out.1.1.2 F.out.out.1.2).mono ?_;rintro e w6 ⟨Q1,q1,u1,rfl,ho,hb⟩;refine hK _ _ ((zC.refl _ _).call hb) ?_;clear hK K;replace F:=zd F hb;replace BX:=ze BX hb;replace V0:=za (V0.out.below hb);have V1:=za ho.nums;clear hb ho;refine yZ rfl (fun w7 hb K hK=>?_)
 go_simp;replace F:=zd F hb;replace BX:=ze BX hb;replace V0:=za (V0.out.below hb);replace V1:=za (V1.out.below hb);clear hb;refine hK _ _ ((zC.refl _ _).alloc _) ?_;clear hK K;replace F:=za F.out.now;obtain ⟨Xlb,hXlb⟩:=zc (w7.alloc (.cells #[.slice Q0 q0 u0,.slice Q1 q1 u1,.slice A1 m1 c1,.slice B1 k1 d1] 63));obtain ⟨bx,b0,hsz⟩:=z6 hXlb;rw [hXlb];have llb:=F.out.hiw;replace F:=zd F b0
 replace BX:=ze BX b0;replace V0:=za (V0.out.below b0);replace V1:=za (V1.out.below b0);have L4:=za bx.1;obtain ⟨lb,hlb⟩:=zc (w7.heap.size);rw [hlb] at F llb L4
 try simp only [hlb]
 clear bx b0 hsz hlb hXlb;have hw0:=zbD hp H0.out.1 hn;have hw1:=zbD hs H2.out.1 hn;have hnn:n*n≤4*4:=Nat.mul_le_mul hn hn;have hp0:0<n*n:=Nat.mul_pos hn1 hn1;have l0:=V0.out.1;have l1:=V1.out.1;have l2:=H1.out.1;have l3:=H3.out.1;have l4:=hp.len;have l5:=hs.len;have hsz4:jk [⟨Q0,q0,u0,jw n x p⟩,⟨Q1,q1,u1,jw n y s⟩,⟨A1,m1,c1,p⟩,⟨B1,k1,d1,s⟩]≤1000:=by simp [jk];omega
 have CC:=za (fun W h=>Yx lb 4 4 [⟨Q0,q0,u0,jw n x p⟩,⟨Q1,q1,u1,jw n y s⟩,⟨A1,m1,c1,p⟩,⟨B1,k1,d1,s⟩] rfl (by omega) hsz4 W h);have hfl:([⟨Q0,q0,u0,jw n x p⟩,⟨Q1,q1,u1,jw n y s⟩,⟨A1,m1,c1,p⟩,⟨B1,k1,d1,s⟩]:List SlR).flatMap SlR.xs=jw n x p++(jw n y s++(p++s)):=by simp [List.flatMap_cons]
 rw [hfl] at CC;obtain ⟨LL,hLL⟩:=zc (jw n x p++(jw n y s++(p++s)));have hln:LL.length≤1000:=by rw [←hLL];simp;omega
 rw [hLL] at CC E;have CF:=za (fun (A:Option Addr) (n c:Nat) (W:World) (h:zk W A n c LL)=>Y6 A n c LL (by have:=h.1;omega) W h);clear hfl hLL hsz4
 have SLm:∀W,At W lb 63 #[.slice Q0 q0 u0,.slice Q1 q1 u1,.slice A1 m1 c1,.slice B1 k1 d1]→zk W Q0 q0 u0 (jw n x p)→zk W Q1 q1 u1 (jw n y s)→zk W A1 m1 c1 p→zk W B1 k1 d1 s→zaC W lb [⟨Q0,q0,u0,jw n x p⟩,⟨Q1,q1,u1,jw n y s⟩,⟨A1,m1,c1,p⟩,⟨B1,k1,d1,s⟩]:=fun W h e0 e1 e2 e3 i t ht=>by
  match i,ht with
  | 0,ht=>cases ht;exact ⟨by show 0<q0;omega,h.cell 0,e0⟩
  | 1,ht=>cases ht;exact ⟨by show 0<q1;omega,h.cell 1,e1⟩
  | 2,ht=>cases ht;exact ⟨by show 0<m1;omega,h.cell 2,e2⟩
  | 3,ht=>cases ht;exact ⟨by show 0<k1;omega,h.cell 3,e3⟩
 refine yZ rfl (fun w8 hb K hK=>?_);go_simp;replace F:=zd F hb;replace BX:=ze BX hb;replace V0:=za (V0.out.below hb);replace V1:=za (V1.out.below hb);replace L4:=za (L4.out.below hb);clear hb;refine (CC.out _ (SLm _ L4.out V0.out V1.out F.out.out.1.1.1.2 F.out.out.1.2)).mono ?_;rintro e w9 ⟨Q2,q2,u2,rfl,ho,hb⟩;refine hK _ _ ((zC.refl _ _).call hb) ?_;clear hK K;replace F:=zd F hb
 replace BX:=ze BX hb;replace V0:=za (V0.out.below hb);replace V1:=za (V1.out.below hb);replace L4:=za (L4.out.below hb);have V2:=za ho.nums;clear hb ho;refine yZ rfl (fun w10 hb K hK=>?_);go_simp;replace F:=zd F hb;replace BX:=ze BX hb;replace V0:=za (V0.out.below hb);replace V1:=za (V1.out.below hb);replace L4:=za (L4.out.below hb);replace V2:=za (V2.out.below hb);clear hb
 refine (CF.out _ _ _ _ V2.out).mono ?_;rintro e w11 ⟨rfl,hb⟩;refine hK _ _ ((zC.refl _ _).call hb) ?_;clear hK K;replace F:=zd F hb;replace BX:=ze BX hb;replace V0:=za (V0.out.below hb);replace V1:=za (V1.out.below hb);replace L4:=za (L4.out.below hb);replace V2:=za (V2.out.below hb);clear hb;refine zf ?_;go_big_quiet_step (fail);refine wpQuiet_nil ?_;refine zJ rfl (fun w12 hb K hK=>?_)
 go_simp;replace F:=zd F hb;replace BX:=ze BX hb;replace V0:=za (V0.out.below hb);replace V1:=za (V1.out.below hb);replace L4:=za (L4.out.below hb);replace V2:=za (V2.out.below hb);clear hb;refine hK _ _ ?_;clear hK K;go_wp2_with fail;go_ret;exact ⟨by first | rfl|(rw [E];rfl),by first | (rw [hg];exact F.out.out.1.1.1.1.1)|exact F.out.out.1.1.1.1.1⟩
end
section
attribute [local go_sem] Oper.semAt_some ve
structure KC (h:Nat) (W W':World):Prop where
 os:W'.os=W.os
 tape:W'.tape=W.tape
 output:W'.output=W.output
 size:W.heap.size≤W'.heap.size
 block:∀k o,k≠h→W.heap[k]?=some o→o.isCells=true→W'.heap[k]?=some o
theorem KC.refl (h:Nat) (W:World):KC h W W:=⟨rfl,rfl,rfl,Nat.le_refl _,fun _ _ _ e _=>e⟩
theorem KC.trans {h:Nat} {A B C:World} (p:KC h A B) (q:KC h B C):KC h A C:=⟨q.os.trans p.os,q.tape.trans p.tape,q.output.trans p.output,Nat.le_trans p.size q.size,fun k o hk e c=>q.block k o hk (p.block k o hk e c) c⟩
theorem KC.of_below {h:Nat} {A B:World} (p:Below A.heap.size A B):KC h A B:=⟨p.os,p.tape,p.output,p.size,fun k o _ e _=>(p.block k (Array.getElem?_eq_some_iff.1 e).1).trans e⟩
theorem KC.drew {h:Nat} {A B:World} (p:KC h A B):KC h A B.drew:=⟨p.os,p.tape,p.output,p.size,p.block⟩
theorem KC.grown {h:Nat} {A B C:World} {row:Option Nat} (p:KC h A B) (g:B.grownBy C row) (hr:∀r,row=some r→r=h∨∃o:Obj,B.heap[r]?=some o∧o.isCells=false):KC h A C :=
 ⟨g.os.trans p.os,g.tape.trans p.tape,g.output.trans p.output,Nat.le_trans p.size g.size,fun k o hk e c=>by
  have e2:=p.block k o hk e c;refine (g.block k (Array.getElem?_eq_some_iff.1 e2).1 (fun er=>?_)).trans e2;rcases hr k er.symm with h1|⟨o', h1,h2⟩
  ·exact hk h1
  ·rw [e2] at h1;cases h1;rw [c] at h2;cases h2⟩
theorem KC.set {h:Nat} {A B:World} (p:KC h A B) (i:Nat) (u:Value):KC h A (B.setCell ⟨h,i,none⟩ u):=p.grown (jv B h i u) fun r e=>.inl (by injection e with e;exact e.symm)
theorem KC.at_ {h:Nat} {A B:World} (p:KC h A B) {g:Nat} {t:TypeId} {cs:Array Value} (hg:g≠h) (k:At A g t cs):At B g t cs:=p.block g _ hg k rfl
theorem KC.cell {h:Nat} {A B:World} (p:KC h A B) {b i:Nat} {v:Value} (hb:b≠h) (c:A.cell? ⟨b,i,none⟩=some v):B.cell? ⟨b,i,none⟩=some v:=by
 obtain ⟨o,ho,hc⟩:∃o,A.heap[b]?=some o∧o.isCells=true:=by
  unfold World.cell? at c
  split at c
  ·rename_i hh;exact ⟨_,hh,rfl⟩
  ·cases c
 exact (World.cell?_of_block ((p.block b o hb ho hc).trans ho.symm)).trans c
theorem KC.nums {h:Nat} {A B:World} (p:KC h A B) {a:Option Addr} {n c:Nat} {xs:List Num} (k:zk A a n c xs) (hb:∀b o,a=some ⟨b,o,none⟩→0<n→b≠h):zk B a n c xs :=
 ⟨k.1,k.2.1,fun hn=>by
  obtain ⟨b,o,e,hc⟩:=k.2.2 hn;have hh:=hb b o e hn;exact ⟨b,o,e,fun i x hx=>⟨p.cell hh (hc i x hx).1,p.cell hh (hc i x hx).2.1,p.cell hh (hc i x hx).2.2.1,p.cell hh (hc i x hx).2.2.2⟩⟩⟩
def ziX (g:Nat):Value:=.func (.func 183) #[] #[.pointer (some ⟨g,0,none⟩)]
theorem zeu (cs:Array Value) (w:World) :
  Calls Tryz.prog 178 #[.agg cs] w fun e w'=>e=.returned (ziX w.heap.size)∧w.alloc (.cells cs 76)=w':=by
 go_enter Tryz.func178,Tryz.ntmps178;go_wp2_with (refine qX rfl 76 _ rfl _ rfl ?_;intro W9 hW9)
 go_ret;exact ⟨rfl,hW9⟩
def Zl (x p:List Num):List Num:=x++p
def Zk (n:Nat) (y s:List Num):List Num:=y++yj n s
end
theorem Xbl {P:Prop} (h:P:=by
 rw [List.mem_append,not_or];exact ⟨zO (fun e=>by have:=(World.ownsRow.lt O0.out g e.symm).1;omega),zO (fun e=>by have:=(World.ownsRow.lt O1.out g e.symm).1;omega)⟩) : P := h
section
attribute [local go_sem] Oper.semAt_some ve
theorem zbu {W w1 w2 w3:World} {v0 v1 v2:Value} {xs ys:List Num} (hB:Below W.heap.size W w1) (O0:zH w1 W.heap.size v0 xs) (O1:zH w1 W.heap.size v1 ys) (D:∀q,v0.ownBlock=some q→v1.ownBlock≠some q)
  (hb:Below w1.heap.size w1 w2) (hgr:w2.grownBy w3 v0.ownBlock) (hat:v2.ownBlock=v0.ownBlock∨v2.ownBlock=some w2.heap.size) :
  Below W.heap.size W w3∧zH w3 W.heap.size v1 ys∧∀q,v2.ownBlock=some q→v1.ownBlock≠some q:=by
 have h12:Below W.heap.size W w2:=hB.trans (hb.mono hB.size);refine ⟨h12.grown hgr h12.size (fun k e=>(World.ownsRow.lt O0 k e).1),?_,?_⟩
 ·refine (O1.below hb).kept hgr ?_
  cases e:v1.ownBlock with
  | none=>exact .inl rfl
  | some q=>exact .inr fun e2=>D q e2.symm e
 ·intro q e e1
  rcases hat with h|h
  ·exact D q (h.symm.trans e) e1
  ·have:=(World.ownsRow.lt O1 q e1).2
   rw [h] at e;injection e with e;have:=hb.size;omega
theorem ziY (nf : Nat) (hf1 : 1 ≤ nf) (h : Nat) (n : Nat) (hn : n ≤ 4) (A0 : Option Addr) (c0 : Nat) (A1 : Option Addr) (m1 c1 : Nat) (B0 : Option Addr) (d0 : Nat) (B1 : Option Addr) (k1 d1 : Nat) (x p y s : List Num) (hp : zt n n p) (hs : zt n n s) (av al ah : Int) (ab : Bool) (bv bl bh : Int) (bb : Bool) (cv cl ch : Int) (cb : Bool) (dv dl dh : Int) (db : Bool) (l g : Nat) (J Jx : List (Num × Num) → World → Prop)
  (hY : ∀ pre x W, J pre W → pre.length < n + n * n → YieldAt Fence.wide (nf - 1) Tryz.prog l (zfu x) W fun e W' =>
   (e = .returned (.bool true) ∧ J (pre ++ [x]) W' ∧ KC h W W') ∨ (e = .returned (.bool false) ∧ Jx (pre ++ [x]) W'))
  (hJ : ∀ pre A B, J pre A → Below A.heap.size A B → J pre B) (W : World) (hh : h < W.heap.size) (hg : At W g 76 #[.slice A0 n c0, .int .i64 (n : Int), .int .i64 (n : Int), .slice A1 m1 c1, .slice B0 n d0, .int .i64 (n : Int), .int .i64 (n : Int), .slice B1 k1 d1, av, al, ah, ab, bv, bl, bh, bb, cv, cl, ch, cb, dv, dl, dh, db]) (h0 : zk W A0 n c0 x) (h1 : zk W A1 m1 c1 p) (h2 : zk W B0 n d0 y) (h3 : zk W B1 k1 d1 s) (hJ0 : J [] W) :
  CallsIn Fence.wide nf Tryz.prog 183 #[.func (.yield l) #[] #[], .pointer (some ⟨g, 0, none⟩)] W fun e W' => (∃ v, e = .returned v) ∧
   ((∃ zs, zs = (Zl x p).zip (Zk n y s) ∧ J zs W') ∨ (∃ pre, pre <+: (Zl x p).zip (Zk n y s) ∧ Jx pre W')) := by
 have hn1 := hp.r1;have hu := Tryz.underlying76;have hu1 := Tryz.underlying67;have hu2 := Tryz.underlying69;have hu3 := Tryz.underlying65;have hu4 := Tryz.underlying71;have i0 : ∀ w : World, (Instr.index 242 (.agg #[.func (.func 22) #[] #[], .func (.func 23) #[] #[]]) (.int .i64 0)).run Tryz.prog w = .ok (.func (.func 22) #[] #[]) w := fun _ => by kernel_rfl
 have i1 : ∀ w : World, (Instr.index 242 (.agg #[.func (.func 22) #[] #[], .func (.func 23) #[] #[]]) (.int .i64 1)).run Tryz.prog w = .ok (.func (.func 23) #[] #[]) w := fun _ => by kernel_rfl
 have RI := za (fun W => jr n hn A0 c0 A1 m1 c1 B0 d0 B1 k1 d1 p s hp hs h1.1 h3.1 ⟨av, al, ah, ab⟩ ⟨bv, bl, bh, bb⟩ ⟨cv, cl, ch, cb⟩ ⟨dv, dl, dh, db⟩ W);have C0 := za (QY n hn A0 c0 A1 m1 c1 B0 d0 B1 k1 d1 x p y s hp hs ⟨av, al, ah, ab⟩ ⟨bv, bl, bh, bb⟩ ⟨cv, cl, ch, cb⟩ ⟨dv, dl, dh, db⟩);have C1 := za (VB n hn A0 c0 A1 m1 c1 B0 d0 B1 k1 d1 x p y s hp hs ⟨av, al, ah, ab⟩ ⟨bv, bl, bh, bb⟩ ⟨cv, cl, ch, cb⟩ ⟨dv, dl, dh, db⟩)
 have C2 := za (VC n hn A0 c0 A1 m1 c1 B0 d0 B1 k1 d1 x p y s hp hs ⟨av, al, ah, ab⟩ ⟨bv, bl, bh, bb⟩ ⟨cv, cl, ch, cb⟩ ⟨dv, dl, dh, db⟩);have C3 := za (zd9 n hn A0 c0 A1 m1 c1 B0 d0 B1 k1 d1 x p y s hp hs ⟨av, al, ah, ab⟩ ⟨bv, bl, bh, bb⟩ ⟨cv, cl, ch, cb⟩ ⟨dv, dl, dh, db⟩);have H0 := za h0;have H1 := za h1;have H2 := za h2;have H3 := za h3;have HY := za hY;have HJ := za hJ;have HJ0 := za hJ0;have HG := za hg
 clear h0 h1 h2 h3 hY hJ hJ0 hg;unfold j6 at RI C0 C1 C2 C3;dsimp only at RI C0 C1 C2 C3;obtain ⟨ZS, hZS⟩ := zc ((Zl x p).zip (Zk n y s));rw [hZS];have bx := HG.out;refine callsIn_of_wp Tryz.func183 rfl trivial ?_ rfl;simp only [Tryz.ntmps183, List.size_toArray, List.length_cons, List.length_nil, Nat.reduceAdd, Nat.reduceSub, Array.replicate_succ, Array.replicate_zero, List.push_toArray, List.append_toArray, List.nil_append, List.cons_append]
 gi_wp2_with (refine yu qJ rfl 76 _ rfl _ _ _ rfl (bx.load76 rfl) ?_)
 refine (zw _ (RI.out _)).mono ?_;rintro e w1 ⟨rfl, hb1⟩;have hB1 := za hb1;clear hb1;gi_wp2_with fail;clear bx;refine wpIn_loop_rounds 3 ?_;rw [roundsIn_succ];gi_wp2_with fail;have lA0 := H0.out.1;have lA1 := H2.out.1;have lP := H1.out.1;have lS := H3.out.1;have lp := hp.len;have ls := hs.len;have h44 : n * n ≤ 4 * 4 := Nat.mul_le_mul hn hn;have hnn : 1 ≤ n * n := Nat.mul_pos hn1 hn1;have lsq : (yj n s).length = n * n := hs.square.len
 have O0 : Hid (zH w1 W.heap.size (.slice none 0 0) []) := za (zH.nil_ _ _);have O1 : Hid (zH w1 W.heap.size (.slice none 0 0) []) := za (zH.nil_ _ _);have D : ∀ q, (Value.slice none 0 0).ownBlock = some q → (Value.slice none 0 0).ownBlock ≠ some q := fun q e => by cases e
 have hgs := (Array.getElem?_eq_some_iff.1 HG.out).1;have HB := hB1;clear hB1;refine JG (by kernel_rfl) (jH ((Value.ownBlock (.slice none 0 0)).toList ++ (Value.ownBlock (.slice none 0 0)).toList) [0, 1, 2, 5, 6, 7] [3, 4, 8, 9, 10, 11] (.cons rfl (.cons rfl (.cons rfl (.cons rfl (.cons rfl (.cons rfl .nil)))))) (.cons rfl (.cons rfl (.cons rfl (.cons rfl (.cons rfl (.cons rfl .nil)))))) (by kernel_rfl) (fun c a d v w h => by cases d <;> exact h) ?_)
 have bx := HG.out.below HB.out
 have gG : g ∉ (Value.ownBlock (.slice none 0 0)).toList ++ (Value.ownBlock (.slice none 0 0)).toList := by
  exact Xbl
 iterate 2 (go_big_quiet_step (fail);go_big_quiet_step (fail);refine qP 76 _ rfl _ _ _ rfl rfl (fun w' hw' => by obtain ⟨xx, rfl⟩ := hw'; exact (bx.but gG xx).load76 rfl) ?_;go_simp)
 refine wpQuiet_nil ?_;clear bx gG;refine zp rfl (fun K hK => ?_);go_simp;refine (C0.out _ (H0.out.below HB.out).drew (H1.out.below HB.out).drew (H2.out.below HB.out).drew (H3.out.below HB.out).drew).mono ?_;rintro e wa0 ⟨Q, q, u, rfl, ho, hb⟩;replace hb := qi hb;refine hK _ _ (zI ((zC.refl _ _).call hb)) ?_;clear hK K;have hq := ho.nums.1;refine zp rfl (fun K hK => ?_);refine jE (.tmp 15) (.tmp 18) rfl W.heap.size (.slice none 0 0) [] x _ q u rfl (O0.out.below hb) rfl (by omega) ho.nums (by first | omega | (simp; omega)) (Nat.le_trans HB.out.size hb.size) ?_
 intro r0 wb0 ho2 hgr hat;obtain ⟨k1, k2, k3⟩ := zbu HB.out O0.out O1.out D hb hgr hat;refine hK _ _ (zI (((zC.refl _ _).call hb).grown hgr (fun k e => .inl (List.mem_append.2 (.inl (qR k e)))))) ?_;clear hK K;have HX := za (((zC.refl w1 ((Value.ownBlock (.slice none 0 0)).toList ++ (Value.ownBlock (.slice none 0 0)).toList)).call hb).grown hgr (fun k e => .inl (List.mem_append.2 (.inl (qR k e)))))
 replace HB := za k1;replace O1 := za k2;replace O0 := za ho2;replace D := fun q e1 e2 => k3 q e2 e1;clear k1 k2 k3 ho ho2 hgr hat hb hq;refine zp rfl (fun K hK => ?_);go_simp;refine (C1.out _ (H0.out.below HB.out) (H1.out.below HB.out) (H2.out.below HB.out) (H3.out.below HB.out)).mono ?_;rintro e wc0 ⟨Q, q, u, rfl, ho, hb⟩;refine hK _ _ (zI (HX.out.call hb)) ?_;clear hK K;have hq := ho.nums.1;refine zp rfl (fun K hK => ?_)
 refine jE (.tmp 20) (.tmp 23) rfl W.heap.size (.slice none 0 0) [] y _ q u rfl (O1.out.below hb) rfl (by omega) ho.nums (by first | omega | (simp; omega)) (Nat.le_trans HB.out.size hb.size) ?_;intro s0 wd0 ho2 hgr hat;obtain ⟨k1, k2, k3⟩ := zbu HB.out O1.out O0.out D hb hgr hat;refine hK _ _ (zI ((HX.out.call hb).grown hgr (fun k e => .inl (List.mem_append.2 (.inr (qR k e)))))) ?_;clear hK K;have HZ := za ((HX.out.call hb).grown hgr (fun k e => .inl (List.mem_append.2 (.inr (qR k e)))))
 replace HB := za k1;replace O0 := za k2;replace O1 := za ho2;replace D := fun q e1 e2 => k3 q e2 e1;clear k1 k2 k3 ho ho2 hgr hat hb hq;clear HX;refine zp rfl (fun K hK => ?_);go_simp;refine hK _ _ (zI HZ.out) ?_;clear hK K;refine zZ rfl (fun K hK => ?_);go_simp;refine hK _ _ ?_;clear hK K;clear HZ;obtain ⟨a0, b0, c0', rfl⟩ := zS O0.out;obtain ⟨e0, f0, g0, rfl⟩ := zS O1.out;rw [List.nil_append] at O0 O1
 gi_wp2_with fail;rw [roundsIn_succ];gi_wp2_with fail;refine JG (by kernel_rfl) (jH ((Value.ownBlock (.slice a0 b0 c0')).toList ++ (Value.ownBlock (.slice e0 f0 g0)).toList) [0, 1, 2, 5, 6, 7] [3, 4, 8, 9, 10, 11] (.cons rfl (.cons rfl (.cons rfl (.cons rfl (.cons rfl (.cons rfl .nil)))))) (.cons rfl (.cons rfl (.cons rfl (.cons rfl (.cons rfl (.cons rfl .nil)))))) (by kernel_rfl) (fun c a d v w h => by cases d <;> exact h) ?_)
 have bx := HG.out.below HB.out
 have gG : g ∉ (Value.ownBlock (.slice a0 b0 c0')).toList ++ (Value.ownBlock (.slice e0 f0 g0)).toList := by
  exact Xbl
 iterate 2 (go_big_quiet_step (fail);go_big_quiet_step (fail);refine qP 76 _ rfl _ _ _ rfl rfl (fun w' hw' => by obtain ⟨xx, rfl⟩ := hw'; exact (bx.but gG xx).load76 rfl) ?_;go_simp)
 refine wpQuiet_nil ?_;clear bx gG;refine zp rfl (fun K hK => ?_);go_simp;refine (C2.out _ (H0.out.below HB.out).drew (H1.out.below HB.out).drew (H2.out.below HB.out).drew (H3.out.below HB.out).drew).mono ?_;rintro e wa1 ⟨Q, q, u, rfl, ho, hb⟩;replace hb := qi hb;refine hK _ _ (zI ((zC.refl _ _).call hb)) ?_;clear hK K;have hq := ho.1;refine zp rfl (fun K hK => ?_);refine jE (.tmp 15) (.tmp 18) rfl W.heap.size (.slice a0 b0 c0') x p _ q u rfl (O0.out.below hb) rfl (by omega) ho (by first | omega | (simp; omega)) (Nat.le_trans HB.out.size hb.size) ?_
 intro r1 wb1 ho2 hgr hat;obtain ⟨k1, k2, k3⟩ := zbu HB.out O0.out O1.out D hb hgr hat;refine hK _ _ (zI (((zC.refl _ _).call hb).grown hgr (fun k e => .inl (List.mem_append.2 (.inl (qR k e)))))) ?_;clear hK K;have HX := za (((zC.refl wd0 ((Value.ownBlock (.slice a0 b0 c0')).toList ++ (Value.ownBlock (.slice e0 f0 g0)).toList)).call hb).grown hgr (fun k e => .inl (List.mem_append.2 (.inl (qR k e)))))
 replace HB := za k1;replace O1 := za k2;replace O0 := za ho2;replace D := fun q e1 e2 => k3 q e2 e1;clear k1 k2 k3 ho ho2 hgr hat hb hq;refine zp rfl (fun K hK => ?_);go_simp;refine (C3.out _ (H0.out.below HB.out) (H1.out.below HB.out) (H2.out.below HB.out) (H3.out.below HB.out)).mono ?_;rintro e wc1 ⟨Q, q, u, rfl, ho, hb⟩;refine hK _ _ (zI (HX.out.call hb)) ?_;clear hK K;have hq := ho.1;refine zp rfl (fun K hK => ?_)
 refine jE (.tmp 20) (.tmp 23) rfl W.heap.size (.slice e0 f0 g0) y (yj n s) _ q u rfl (O1.out.below hb) rfl (by omega) ho (by first | omega | (simp; omega)) (Nat.le_trans HB.out.size hb.size) ?_;intro s1 wd1 ho2 hgr hat;obtain ⟨k1, k2, k3⟩ := zbu HB.out O1.out O0.out D hb hgr hat;refine hK _ _ (zI ((HX.out.call hb).grown hgr (fun k e => .inl (List.mem_append.2 (.inr (qR k e)))))) ?_;clear hK K;have HZ := za ((HX.out.call hb).grown hgr (fun k e => .inl (List.mem_append.2 (.inr (qR k e)))))
 replace HB := za k1;replace O0 := za k2;replace O1 := za ho2;replace D := fun q e1 e2 => k3 q e2 e1;clear k1 k2 k3 ho ho2 hgr hat hb hq;clear HX;refine zp rfl (fun K hK => ?_);go_simp;refine hK _ _ (zI HZ.out) ?_;clear hK K;refine zZ rfl (fun K hK => ?_);go_simp;refine hK _ _ ?_;clear hK K;clear HZ;obtain ⟨a1, b1, c1', rfl⟩ := zS O0.out;obtain ⟨e1, f1, g1, rfl⟩ := zS O1.out;obtain ⟨M, hM⟩ := zc (n + n * n)
 obtain rfl : M = b1 := by have := zL O0.out; rw [List.length_append, lA0, lP] at this; omega
 obtain rfl : M = f1 := by have := zL O1.out; rw [List.length_append, lA1, lsq] at this; omega
 gi_wp2_with fail;rw [roundsIn_succ];gi_wp2_with fail;have hM20 : M ≤ 20 := by omega
 have lz : ((Zl x p).zip (Zk n y s)).length = M := by unfold Zl Zk; rw [List.length_zip, List.length_append, List.length_append, lA0, lP, lA1, lsq]; omega
 obtain ⟨xs, hxs⟩ := zc (x ++ p);obtain ⟨ys, hys⟩ := zc (y ++ yj n s);rw [hxs] at O0;rw [hys] at O1;have ez : ZS = xs.zip ys := by rw [← hZS]; unfold Zl Zk; rw [hxs, hys]
 rw [hZS] at lz;have HEZ := za ez;have NX := fun w' (k : KC h wd1 w') => k.nums O0.out.nums (fun b o e _ => by have := zY O0.out b o e; omega);have NY := fun w' (k : KC h wd1 w') => k.nums O1.out.nums (fun b o e _ => by have := zY O1.out b o e; omega);have HX := za NX;have HZ := za NY;have J1 := za (HJ.out _ _ _ HJ0.out HB.out);have hLZ := za lz;rw [hM] at HY;clear NX NY ez hZS hxs hys lA0 lA1 lP lS lp ls h44 hnn lsq C0 C1 C2 C3 RI H0 H1 H2 H3 HJ0 HG D O0 O1 lz hM
 gi_loopw [7, 31] (fun _ i wr => ∃ k : Nat, k ≤ M ∧ i = .int .i64 k ∧ Hid (J (ZS.take k) wr) ∧ Hid (KC h wd1 wr)) (fun _ i _ => M - (intOf i).toNat)
 case atStart => exact ⟨0, by omega, rfl, J1, za (KC.refl _ _)⟩
 case round =>
  obtain ⟨k, hk, rfl, JK, KB⟩ := hrel
  by_cases hlt : k < M
  ·obtain ⟨b, o, u, rfl, hxk, x0, x1, x2, x3⟩ := (HX.out wr KB.out).at_ (k := k) (by omega)
   obtain ⟨b', o', v, rfl, hyk, y0, y1, y2, y3⟩ := (HZ.out wr KB.out).at_ (k := k) (by omega);have hlen : (ZS.take k).length < M := by rw [List.length_take, hLZ.out]; omega
   obtain ⟨fn, tmps, assign, body, hyy, hR⟩ := HY.out _ (u, v) wr.drew (HJ.out _ _ _ JK.out ⟨rfl, rfl, rfl, Nat.le_refl _, fun _ _ => rfl⟩) hlen;have HT := za (show ZS.take (k + 1) = ZS.take k ++ [(u, v)] by rw [HEZ.out]; exact zeG hxk hyk);clear hxk hyk hlen;obtain ⟨uv, ul, uh, ub⟩ := u;obtain ⟨vv, vl, vh, vb⟩ := v;dsimp only [zfu, Num.val] at hyy x0 x1 x2 x3 y0 y1 y2 y3;gi_wp2_with fail;refine Zn qJ 9 (by kernel_rfl) (by kernel_rfl) (by kernel_rfl) ?_
   simp only [List.take_succ_cons, List.take_zero, List.drop_succ_cons, List.drop_zero]
   repeat (go_big_quiet_step (fail))
   refine wpQuiet_nil ?_;gi_wp2_with fail;refine hR.mono ?_;rintro e W3 (⟨rfl, hJ3, hk3⟩ | ⟨rfl, hJx3⟩)
   ·have HJ3 := za (show J (ZS.take (k + 1)) W3 by rw [HT.out]; exact hJ3)
    have HB3 := za (KB.out.drew.trans hk3);clear hJ3 hk3;gi_wp2_with fail;exact XbF
   ·have HJ3 := za (show Jx (ZS.take (k + 1)) W3 by rw [HT.out]; exact hJx3)
    clear hJx3;gi_wp2_with fail;exact XaY
  ·have e : ZS.take k = ZS := List.take_of_length_le (by rw [hLZ.out]; omega)
   rw [e] at JK;clear e;gi_wp2_with fail
   go_end0
   exact ⟨⟨_, rfl⟩, .inl ⟨_, rfl, JK.out⟩⟩
end
end Go.Proofs.YtcoiklclbljjeaaGreatDoor.L
