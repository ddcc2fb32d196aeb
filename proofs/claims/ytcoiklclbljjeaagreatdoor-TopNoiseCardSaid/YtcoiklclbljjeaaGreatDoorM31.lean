/- Lemmas of the card's proof. -/
import Derived.Test.YtcoiklclbljjeaaGreatDoorM30
set_option linter.unusedVariables false
set_option linter.unusedSimpArgs false
set_option maxRecDepth 100000
set_option maxHeartbeats 16000000
namespace Go.Proofs.YtcoiklclbljjeaaGreatDoor.L
open Go.RowKit
section
attribute [local go_sem] Oper.semAt_some
def zM (l:List Int):List Num:=l.map jf
theorem zcl (n:Int) (w:World):Calls Tryz.prog 137 #[n] w fun e w'=>e=.returned (jf n).val∧Below w.heap.size w w':=by
 refine (zar n w).mono ?_;rintro e w' ⟨rfl,hb⟩;exact ⟨by unfold jf;split<;>rfl,hb⟩
theorem QX (A:Option Addr) (n c:Nat) (l:List Int) (hn:n≤1000) (w:World) (hx:zU w A n c l):Calls Tryz.prog 132 #[.slice A n c] w (jl (zM l) w):=by
 have HX:=za hx;have LX:=za hx.1;clear hx;have hu:=Tryz.underlying71;go_enter Tryz.func132,Tryz.ntmps132;go_wp2_with fail
 go_loopw [3,5,8] (fun v _ i wr=>∃k:Nat,k≤n∧i=.int .i64 k∧Hid (zH wr w.heap.size v (zM (l.take k)))∧Hid (Below w.heap.size w wr)) (fun _ _ i _=>n-(intOf i).toNat)
 case atStart=>exact ⟨0,by omega,rfl,za (zH.nil_ _ _),za (Below.refl _ _)⟩
 case round =>
  obtain ⟨k,hk,rfl,HO,HB⟩:=hrel
  by_cases hlt:k<n
  ·obtain ⟨b,o,x,rfl,hxk,x0⟩:=(HX.out.below HB.out).at_ (k:=k) hlt
   have HT:=za (show zM (l.take k)++[jf x]=zM (l.take (k+1)) by rw [jT hxk];simp [zM]);have HL:=za (show (zM (l.take k)).length≤1000 by unfold zM;rw [List.length_map,List.length_take];omega);have C:=za (fun W=>zcl x W);obtain ⟨y', hy'⟩:=zc (jf x);rw [hy'] at HT;simp only [hy'] at C;obtain ⟨L,hL⟩:=zc (zM (l.take k));rw [hL] at HO HL HT;clear hy' hxk hL;obtain ⟨zv,zl,zh,zb⟩:=y'
   unfold Num.val at C;dsimp only at C;go_wp2_with fail;refine (C.out _).mono ?_;rintro e w2 ⟨rfl,hb2⟩;have O2:=za (HO.out.below hb2);have K2:=za (zi HB.out hb2);clear hb2 x0;go_wp2_with (at_builtin;refine yJ rfl (.tmp 12) (.tmp 15) rfl w.heap.size u3 L ⟨zv,zl,zh,zb⟩ _ rfl (O2.out.alloc _) rfl (At.new' (by simp)) HL.out (zg K2.out _).size ?_;intro g1 cc1 w3 hown hgrow hat hg1;have O3:=za hown;have K3:=za (vn (zg K2.out _) (O2.out.alloc _) hgrow);clear hown hgrow hat hg1)
   exact XaB
  ·have e:l.take k=l:=List.take_of_length_le (by rw [LX.out];omega)
   rw [e] at HO;clear e;obtain ⟨A1,n1,c1,rfl⟩:=zS HO.out;go_wp2_with fail;go_ret;exact ⟨A1,n1,c1,rfl,HO.out,HB.out⟩
theorem jo (l:List Int):(zM l).length=l.length:=by simp [zM]
theorem QW (n:Nat) (h1:1≤n) (h2:n≤4) (A:Option Addr) (m c:Nat) (l:List Int) (hl:l.length=n*n) (w:World) (hx:zU w A m c l):Calls Tryz.prog 130 #[.int .i64 (n:Int),.slice A m c] w (QJ n n (zM l) w):=by
 have hu:=Tryz.underlying65;have hnn:n*n≤16:=Nat.le_trans (Nat.mul_le_mul h2 h2) (by decide);have hm:m≤1000:=by rw [←hx.1,hl];omega
 have PT:=za (fun (W:World) (k:zU W A m c l)=>QX A m c l hm W k);have hs:zt n n (zM l):=⟨h1,by omega,h1,by omega,by rw [jo,hl]⟩
 have NW:=za (fun (Q:Option Addr) (a b:Nat) (W:World) (k:zk W Q a b (zM l))=>vE n n Q a b _ hs W k);have HX:=za hx;clear hx;unfold zE at NW;go_enter Tryz.func130,Tryz.ntmps130;go_wp2_with fail;obtain ⟨W0,hW0⟩:=zc ((w.alloc (.cells #[.int .i64 0,.int .i64 0,.slice none 0 0] 65)));obtain ⟨bx,b0,hsz⟩:=z6 hW0;rw [hW0];clear hW0;have F:=za ((Off.start b0 hsz).argI b0 (HX.out))
 have BX:=za bx;clear bx b0 hsz;obtain ⟨g,hg⟩:=zc (w.heap.size);rw [hg] at F BX
 try simp only [hg]
 refine (PT.out _ F.out.out.2).mono ?_;rintro e w1 ⟨Q1,a1,b1,rfl,ho,hb⟩;replace F:=za (F.out.gotO hb ho );replace BX:=ze BX hb;clear hb ho;go_wp2_with fail;refine (NW.out Q1 a1 b1 _ F.out.out.2).mono ?_;rintro e w2 ⟨Q2,a2,b2,rfl,hq,hb,hfr⟩;unfold zE;have fN2:∀b o,Q2=some ⟨b,o,none⟩→g+1≤b:=fun b o e=>Nat.le_trans F.out.hiw (hfr b o e);replace F:=za (F.out.gotN hb hq hfr)
 replace BX:=ze BX hb;clear hb hq hfr;have r0:=((BX.out.1).alloc (.cells #[.int .i64 (n:Int),.int .i64 (n:Int),.slice Q2 a2 b2] 65)).cell 0;have zr0:=((BX.out.1).alloc (.cells #[.int .i64 (n:Int),.int .i64 (n:Int),.slice Q2 a2 b2] 65)).frozen 0;have r1:=((BX.out.1).alloc (.cells #[.int .i64 (n:Int),.int .i64 (n:Int),.slice Q2 a2 b2] 65)).cell 1;have zr1:=((BX.out.1).alloc (.cells #[.int .i64 (n:Int),.int .i64 (n:Int),.slice Q2 a2 b2] 65)).frozen 1
 have r2:=((BX.out.1).alloc (.cells #[.int .i64 (n:Int),.int .i64 (n:Int),.slice Q2 a2 b2] 65)).cell 2;have zr2:=((BX.out.1).alloc (.cells #[.int .i64 (n:Int),.int .i64 (n:Int),.slice Q2 a2 b2] 65)).frozen 2;go_wp2_with fail;clear r0 zr0 r1 zr1 r2 zr2;obtain ⟨Xh,hXh⟩:=zc (w2.alloc (.cells #[.int .i64 (n:Int),.int .i64 (n:Int),.slice Q2 a2 b2] 65));obtain ⟨bx,b0,hsz⟩:=z6 hXh
 rw [hXh];have lh:=F.out.hiw;replace F:=za (F.out.gotA b0 bx );replace BX:=ze BX b0;obtain ⟨h,hh⟩:=zc (w2.heap.size);rw [hh] at F lh
 try simp only [hh]
 clear bx b0 hsz hh hXh;have F9:=F.out.set3 (g:=g) (.inl (by omega)) (.int .i64 (n:Int)) (.int .i64 (n:Int)) (.slice Q2 a2 b2);obtain ⟨d0,d1,d2⟩:=((BX.out.1).set3 (.int .i64 (n:Int)) (.int .i64 (n:Int)) (.slice Q2 a2 b2)).three;exact bodyPost_ret (v:=.agg #[.int .i64 (n:Int),.int .i64 (n:Int),.slice Q2 a2 b2]) (by simp [results,Tryz.results130,go_sem,d0,d1,d2]) rfl ⟨Q2,a2,b2,rfl,F9.out.1.2,by rw [hg];exact F9.out.1.1.1.1,fun b o e=>by rw [hg];have:=fN2 b o e;omega⟩
end
section
attribute [local go_sem] Oper.semAt_some
def j6 (n:Nat) (A0:Option Addr) (c0:Nat) (A1:Option Addr) (m1 c1:Nat) (B0:Option Addr) (d0:Nat) (B1:Option Addr) (k1 d1:Nat) (a b c d:Num):Value :=
 .agg #[.slice A0 n c0,.int .i64 (n:Int),.int .i64 (n:Int),.slice A1 m1 c1,.slice B0 n d0,.int .i64 (n:Int),.int .i64 (n:Int),.slice B1 k1 d1,
  .int .i64 a.v,a.l,a.h,a.bad,b.v,b.l,b.h,b.bad,c.v,c.l,c.h,c.bad,d.v,d.l,d.h,d.bad]
theorem jr (n:Nat) (hn:n≤4) (A0:Option Addr) (c0:Nat) (A1:Option Addr) (m1 c1:Nat) (B0:Option Addr) (d0:Nat) (B1:Option Addr) (k1 d1:Nat) (p s:List Num) (hp:zt n n p) (hs:zt n n s) (hpl:p.length=m1) (hsl:s.length=k1) (a b c d:Num) (w:World) :
  Calls Tryz.prog 53 #[j6 n A0 c0 A1 m1 c1 B0 d0 B1 k1 d1 a b c d] w fun e w'=>e=.returned (.bool true)∧Below w.heap.size w w':=by
 have hu:=Tryz.underlying76;have hu1:=Tryz.underlying67;have hu2:=Tryz.underlying69;have hu3:=Tryz.underlying65;have J:=za (fun W=>vF n A0 c0 A1 m1 c1 p hn hp hpl W);have R:=za (fun W=>ZF n B0 d0 B1 k1 d1 s hn hs hsl W);obtain ⟨av,al,ah,ab⟩:=a;obtain ⟨bv,bl,bh,bb⟩:=b;obtain ⟨cv,cl,ch,cb⟩:=c;obtain ⟨dv,dl,dh,db⟩:=d;unfold yW at J R;unfold j6;dsimp only;go_enter Tryz.func53,Tryz.ntmps53
 go_wp2_with fail;obtain ⟨W0,hW0⟩:=zc ((w.alloc (.cells #[.slice A0 n c0,.int .i64 (n:Int),.int .i64 (n:Int),.slice A1 m1 c1,.slice B0 n d0,.int .i64 (n:Int),.int .i64 (n:Int),.slice B1 k1 d1,av,al,ah,ab,bv,bl,bh,bb,cv,cl,ch,cb,dv,dl,dh,db] 76)));obtain ⟨bx,b0,hsz⟩:=z6 hW0;rw [hW0];clear hW0;have F:=za (Off.start b0 hsz);have BX:=za bx;clear bx b0 hsz;obtain ⟨g,hg⟩:=zc (w.heap.size)
 rw [hg] at F BX
 try simp only [hg]
 have x0:=(BX.out.1).cell 0;have x1:=(BX.out.1).cell 1;have x2:=(BX.out.1).cell 2;have x3:=(BX.out.1).cell 3;have x4:=(BX.out.1).cell 4;have x5:=(BX.out.1).cell 5;have x6:=(BX.out.1).cell 6;have x7:=(BX.out.1).cell 7
 try go_wp2_with fail
 refine (J.out _).mono ?_;rintro e w1 ⟨rfl,hb⟩;replace F:=zd F hb;replace BX:=ze BX hb;clear hb x0 x1 x2 x3 x4 x5 x6 x7;have x0:=(BX.out.1).cell 0;have x1:=(BX.out.1).cell 1;have x2:=(BX.out.1).cell 2;have x3:=(BX.out.1).cell 3;have x4:=(BX.out.1).cell 4;have x5:=(BX.out.1).cell 5;have x6:=(BX.out.1).cell 6;have x7:=(BX.out.1).cell 7;go_wp2_with fail;refine (R.out _).mono ?_;rintro e w2 ⟨rfl,hb⟩
 replace F:=zd F hb;replace BX:=ze BX hb;clear hb x0 x1 x2 x3 x4 x5 x6 x7;have x0:=(BX.out.1).cell 0;have x1:=(BX.out.1).cell 1;have x2:=(BX.out.1).cell 2;have x3:=(BX.out.1).cell 3;have x4:=(BX.out.1).cell 4;have x5:=(BX.out.1).cell 5;have x6:=(BX.out.1).cell 6;have x7:=(BX.out.1).cell 7;go_wp2_with fail;exact bodyPost_ret (v:=.bool true) (by simp [results,Tryz.results53,go_sem]) rfl ⟨rfl,by rw [hg];exact F.out.out⟩
end
theorem Xbf {P:Prop} (h:P:=by
 unfold Oper.wp execOp;simp only [ho,hv,zhj (P:=P) t cs w _ rfl _ rfl,Sem.run_bind,Sem.run_pure,Result.andThen_ok];exact hK _ _ (h _ rfl)) : P := h
theorem Xby {P:Prop} (h:P:=by
 unfold Oper.wp execOp;simp only [ho,hx,hr,Sem.run_bind,Sem.run_pure,Result.andThen_ok];exact hK _ _ h) : P := h
theorem XaF {P:Prop} (h:P:=by
 rintro e w2 ⟨Q,q,r,rfl,ho,hb⟩;have hfr:=jW ho (show w.heap.size≤_ from by have:=F.out.hiw;omega);have hfo:=za hfr;replace F:=zd F hb;replace BX:=ze BX hb;clear hb x0 x4 ho hfr;have hfo':=za hfo.out;go_wp2_with fail;go_ret;exact ⟨Q,q,r,rfl,by first | exact hfo'.out|(rw [hg];exact hfo'.out)|(rw [←hg];exact hfo'.out),by first | (rw [hg];exact F.out.out.1.1.1.1)|exact F.out.out.1.1.1.1⟩) : P := h
theorem Xbg {P:Prop} (h:P:=by
 go_wp2_with fail;go_ret;exact ⟨Q,q,r,rfl,F.out.out.2,by first | (rw [hg];exact F.out.out.1.1.1.1.1)|exact F.out.out.1.1.1.1.1⟩) : P := h
section
attribute [local go_sem] Oper.semAt_some
theorem zaN {P:Program} {w:World} (t:TypeId) (b o:Nat) (cs:List Value) (hA:(isAgg t).run P w=.ok true w) (hS:(Go.sizeOf t).run P w=.ok cs.length w) (h:∀j v,cs[j]?=some v→w.cell? ⟨b,o+j,none⟩=some v) :
  (Instr.loadAt t (.pointer (some ⟨b,o,none⟩))).run P w=.ok (.agg cs.toArray) w:=by
 have hl:=run_loadCells_list (P:=P) w ⟨b,o,none⟩ cs (fun j v hj=>by rw [zjW];exact h j v hj);unfold Instr.loadAt loadVar;simp [Instr.sureAddr,hA,hS,hl,Result.andThen]
theorem zk4 {w:World} {b o:Nat} {cs:Array Value} (hs:cs.size=24) (h:∀(j:Nat) (v:Value),cs[j]?=some v→w.cell? ⟨b,o+j,none⟩=some v) :
  (Instr.loadAt 76 (.pointer (some ⟨b,o,none⟩))).run Tryz.prog w=.ok (.agg cs) w:=by
 have h1:(isAgg 76).run Tryz.prog w=.ok true w:=by kernel_rfl
 have h2:(Go.sizeOf 76).run Tryz.prog w=.ok 24 w:=by kernel_rfl
 have:=zaN (P:=Tryz.prog) (w:=w) 76 b o cs.toList h1 (by rw [Array.length_toList,hs];exact h2) (fun j v hj=>h j v (by simpa using hj))
 simpa using this
theorem At.load76 {w:World} {g:Nat} {cs:Array Value} (h:At w g 76 cs) (hs:cs.size=24):(Instr.loadAt 76 (.pointer (some ⟨g,0,none⟩))).run Tryz.prog w=.ok (.agg cs) w :=
 L.zk4 hs fun j v hj=>by rw [Nat.zero_add,h.cell];exact hj
theorem zhj {P:Program} (t:TypeId) (cs:Array Value) (w:World) (g:Nat) (hg:w.heap.size=g) (W:World) (hW:w.alloc (.cells cs t)=W):(Instr.box t (.agg cs)).run P w=.ok (.pointer (some ⟨g,0,none⟩)) W:=by
 subst hg hW;rfl
theorem qX {P:Program} {ops:Array Oper} {rest:List Oper} {o:Oper} {a:Act} {Q:Exit→Act→World→Prop} {w:World} (hgd:o.guard=none) (t:TypeId) (x:Operand) (ho:o.op=.box t x) (cs:Array Value) (hv:a.eval x=.agg cs)
  (h:∀W', w.alloc (.cells cs t)=W'→wpList P ops Q rest (a.put o.dst (.pointer (some ⟨w.heap.size,0,none⟩))) W'):wpList P ops Q (o::rest) a w:=by
 refine wpList_plain hgd fun K hK=>?_;exact Xbf
theorem qg {P:Program} {ops:Array Oper} {rest:List Oper} {o:Oper} {a:Act} {Q:Exit→Act→World→Prop} {w:World} (hgd:o.guard=none) (t:TypeId) (x:Operand) (ho:o.op=.load t x) (b i:Nat) (cs:Array Value) (hx:a.eval x=.pointer (some ⟨b,i,none⟩))
  (hr:(Instr.loadAt t (.pointer (some ⟨b,i,none⟩))).run P w=.ok (.agg cs) w) (h:wpList P ops Q rest (a.put o.dst (.agg cs)) w):wpList P ops Q (o::rest) a w:=by
 refine wpList_plain hgd fun K hK=>?_;exact Xby
theorem At.of_new {w W:World} {cs:Array Value} {t:TypeId} (h:w.alloc (.cells cs t)=W):At W w.heap.size t cs:=by subst h;exact At.new w t cs
theorem QY (n:Nat) (hn:n≤4) (A0:Option Addr) (c0:Nat) (A1:Option Addr) (m1 c1:Nat) (B0:Option Addr) (d0:Nat) (B1:Option Addr) (k1 d1:Nat) (x p y s:List Num) (hp:zt n n p) (hs:zt n n s) (a b c d:Num) (w:World) (h0:zk w A0 n c0 x) (h1:zk w A1 m1 c1 p) (h2:zk w B0 n d0 y) (h3:zk w B1 k1 d1 s) :
  Calls Tryz.prog 22 #[j6 n A0 c0 A1 m1 c1 B0 d0 B1 k1 d1 a b c d,.int .i64 0] w (jl x w):=by
 have hu:=Tryz.underlying76;have hu1:=Tryz.underlying67;have hu2:=Tryz.underlying69;have hu3:=Tryz.underlying65;have hu4:=Tryz.underlying71;have RI:=za (fun W=>jr n hn A0 c0 A1 m1 c1 B0 d0 B1 k1 d1 p s hp hs h1.1 h3.1 a b c d W);have H0:=za h0;have H1:=za h1;have H2:=za h2;have H3:=za h3;clear h0 h1 h2 h3;have CL:=za (fun (A:Option Addr) (c:Nat) (l:List Num) (W:World) (h:zk W A n c l)=>jU A n c l (by omega) W h)
 obtain ⟨av,al,ah,ab⟩:=a;obtain ⟨bv,bl,bh,bb⟩:=b;obtain ⟨cv,cl,ch,cb⟩:=c;obtain ⟨dv,dl,dh,db⟩:=d;unfold j6 at RI ⊢;dsimp only at RI ⊢;go_enter Tryz.func22,Tryz.ntmps22;go_wp2_with (first | (refine qX rfl 76 _ rfl _ rfl ?_;intro W9 hW9;have bx9:=At.of_new hW9)|refine qg rfl 76 _ rfl _ _ _ rfl (bx9.load76 rfl) ?_)
 clear bx9;subst hW9;obtain ⟨W0,hW0⟩:=zc ((w.alloc (.cells #[.slice A0 n c0,.int .i64 (n:Int),.int .i64 (n:Int),.slice A1 m1 c1,.slice B0 n d0,.int .i64 (n:Int),.int .i64 (n:Int),.slice B1 k1 d1,av,al,ah,ab,bv,bl,bh,bb,cv,cl,ch,cb,dv,dl,dh,db] 76)));obtain ⟨bx,b0,hsz⟩:=z6 hW0;rw [hW0];clear hW0;have F:=za (((((Off.start b0 hsz).argN b0 (H0.out)).argN b0 (H1.out)).argN b0 (H2.out)).argN b0 (H3.out))
 have BX:=za bx;clear bx b0 hsz;obtain ⟨g,hg⟩:=zc (w.heap.size);rw [hg] at F BX
 try simp only [hg]
 refine (RI.out _).mono ?_;rintro e w1 ⟨rfl,hb⟩;replace F:=zd F hb;replace BX:=ze BX hb;clear hb;have x0:=(BX.out.1).cell 0;have x4:=(BX.out.1).cell 4;go_wp2_with fail;refine (CL.out _ _ _ _ F.out.out.1.1.1.2).mono ?_;exact XaF
theorem VB (n:Nat) (hn:n≤4) (A0:Option Addr) (c0:Nat) (A1:Option Addr) (m1 c1:Nat) (B0:Option Addr) (d0:Nat) (B1:Option Addr) (k1 d1:Nat) (x p y s:List Num) (hp:zt n n p) (hs:zt n n s) (a b c d:Num) (w:World) (h0:zk w A0 n c0 x) (h1:zk w A1 m1 c1 p) (h2:zk w B0 n d0 y) (h3:zk w B1 k1 d1 s) :
  Calls Tryz.prog 22 #[j6 n A0 c0 A1 m1 c1 B0 d0 B1 k1 d1 a b c d,.int .i64 1] w (jl y w):=by
 have hu:=Tryz.underlying76;have hu1:=Tryz.underlying67;have hu2:=Tryz.underlying69;have hu3:=Tryz.underlying65;have hu4:=Tryz.underlying71;have RI:=za (fun W=>jr n hn A0 c0 A1 m1 c1 B0 d0 B1 k1 d1 p s hp hs h1.1 h3.1 a b c d W);have H0:=za h0;have H1:=za h1;have H2:=za h2;have H3:=za h3;clear h0 h1 h2 h3;have CL:=za (fun (A:Option Addr) (c:Nat) (l:List Num) (W:World) (h:zk W A n c l)=>jU A n c l (by omega) W h)
 obtain ⟨av,al,ah,ab⟩:=a;obtain ⟨bv,bl,bh,bb⟩:=b;obtain ⟨cv,cl,ch,cb⟩:=c;obtain ⟨dv,dl,dh,db⟩:=d;unfold j6 at RI ⊢;dsimp only at RI ⊢;go_enter Tryz.func22,Tryz.ntmps22;go_wp2_with (first | (refine qX rfl 76 _ rfl _ rfl ?_;intro W9 hW9;have bx9:=At.of_new hW9)|refine qg rfl 76 _ rfl _ _ _ rfl (bx9.load76 rfl) ?_)
 clear bx9;subst hW9;obtain ⟨W0,hW0⟩:=zc ((w.alloc (.cells #[.slice A0 n c0,.int .i64 (n:Int),.int .i64 (n:Int),.slice A1 m1 c1,.slice B0 n d0,.int .i64 (n:Int),.int .i64 (n:Int),.slice B1 k1 d1,av,al,ah,ab,bv,bl,bh,bb,cv,cl,ch,cb,dv,dl,dh,db] 76)));obtain ⟨bx,b0,hsz⟩:=z6 hW0;rw [hW0];clear hW0;have F:=za (((((Off.start b0 hsz).argN b0 (H0.out)).argN b0 (H1.out)).argN b0 (H2.out)).argN b0 (H3.out))
 have BX:=za bx;clear bx b0 hsz;obtain ⟨g,hg⟩:=zc (w.heap.size);rw [hg] at F BX
 try simp only [hg]
 refine (RI.out _).mono ?_;rintro e w1 ⟨rfl,hb⟩;replace F:=zd F hb;replace BX:=ze BX hb;clear hb;have x0:=(BX.out.1).cell 0;have x4:=(BX.out.1).cell 4;go_wp2_with fail;refine (CL.out _ _ _ _ F.out.out.1.2).mono ?_;exact XaF
theorem VC (n:Nat) (hn:n≤4) (A0:Option Addr) (c0:Nat) (A1:Option Addr) (m1 c1:Nat) (B0:Option Addr) (d0:Nat) (B1:Option Addr) (k1 d1:Nat) (x p y s:List Num) (hp:zt n n p) (hs:zt n n s) (a b c d:Num) (w:World) (h0:zk w A0 n c0 x) (h1:zk w A1 m1 c1 p) (h2:zk w B0 n d0 y) (h3:zk w B1 k1 d1 s) :
  Calls Tryz.prog 23 #[j6 n A0 c0 A1 m1 c1 B0 d0 B1 k1 d1 a b c d,.int .i64 0] w fun e w'=>∃A m c,e=.returned (.slice A m c)∧zk w' A m c p∧Below w.heap.size w w':=by
 have hu:=Tryz.underlying76;have hu1:=Tryz.underlying67;have hu2:=Tryz.underlying69;have hu3:=Tryz.underlying65;have hu4:=Tryz.underlying71;have RI:=za (fun W=>jr n hn A0 c0 A1 m1 c1 B0 d0 B1 k1 d1 p s hp hs h1.1 h3.1 a b c d W);have H0:=za h0;have H1:=za h1;have H2:=za h2;have H3:=za h3;clear h0 h1 h2 h3;have hm1:m1≤1000:=by have:=H1.out.1;have:=hp.prod;have:=hp.len;omega
 have CL:=za (fun (W:World) (h:zk W A1 m1 c1 p)=>jU A1 m1 c1 p hm1 W h);obtain ⟨av,al,ah,ab⟩:=a;obtain ⟨bv,bl,bh,bb⟩:=b;obtain ⟨cv,cl,ch,cb⟩:=c;obtain ⟨dv,dl,dh,db⟩:=d;unfold j6 at RI ⊢;dsimp only at RI ⊢;go_enter Tryz.func23,Tryz.ntmps23;go_wp2_with (first | (refine qX rfl 76 _ rfl _ rfl ?_;intro W9 hW9;have bx9:=At.of_new hW9)|refine qg rfl 76 _ rfl _ _ _ rfl (bx9.load76 rfl) ?_)
 clear bx9;subst hW9;obtain ⟨W0,hW0⟩:=zc ((w.alloc (.cells #[.slice A0 n c0,.int .i64 (n:Int),.int .i64 (n:Int),.slice A1 m1 c1,.slice B0 n d0,.int .i64 (n:Int),.int .i64 (n:Int),.slice B1 k1 d1,av,al,ah,ab,bv,bl,bh,bb,cv,cl,ch,cb,dv,dl,dh,db] 76)));obtain ⟨bx,b0,hsz⟩:=z6 hW0;rw [hW0];clear hW0;have F:=za (((((Off.start b0 hsz).argN b0 (H0.out)).argN b0 (H1.out)).argN b0 (H2.out)).argN b0 (H3.out))
 have BX:=za bx;clear bx b0 hsz;obtain ⟨g,hg⟩:=zc (w.heap.size);rw [hg] at F BX
 try simp only [hg]
 refine (RI.out _).mono ?_;rintro e w1 ⟨rfl,hb⟩;replace F:=zd F hb;replace BX:=ze BX hb;clear hb;have x0:=(BX.out.1).cell 0;have x1:=(BX.out.1).cell 1;have x2:=(BX.out.1).cell 2;have x3:=(BX.out.1).cell 3;have x4:=(BX.out.1).cell 4;have x5:=(BX.out.1).cell 5;have x6:=(BX.out.1).cell 6;have x7:=(BX.out.1).cell 7;go_wp2_with fail;refine (CL.out _ F.out.out.1.1.2).mono ?_;rintro e w2 ⟨Q,q,r,rfl,ho,hb⟩
 have fN9:∀b o,Q=some ⟨b,o,none⟩→g+1≤b:=fun b o e=>Nat.le_trans F.out.hiw (zY ho b o e);replace F:=za (F.out.gotO hb ho );replace BX:=ze BX hb;clear hb x0 x1 x2 x3 x4 x5 x6 x7 ho;exact Xbg
theorem zd9 (n:Nat) (hn:n≤4) (A0:Option Addr) (c0:Nat) (A1:Option Addr) (m1 c1:Nat) (B0:Option Addr) (d0:Nat) (B1:Option Addr) (k1 d1:Nat) (x p y s:List Num) (hp:zt n n p) (hs:zt n n s) (a b c d:Num) (w:World) (h0:zk w A0 n c0 x) (h1:zk w A1 m1 c1 p) (h2:zk w B0 n d0 y) (h3:zk w B1 k1 d1 s) :
  Calls Tryz.prog 23 #[j6 n A0 c0 A1 m1 c1 B0 d0 B1 k1 d1 a b c d,.int .i64 1] w fun e w'=>∃A m c,e=.returned (.slice A m c)∧zk w' A m c (yj n s)∧Below w.heap.size w w':=by
 have hu:=Tryz.underlying76;have hu1:=Tryz.underlying67;have hu2:=Tryz.underlying69;have hu3:=Tryz.underlying65;have hu4:=Tryz.underlying71;have RI:=za (fun W=>jr n hn A0 c0 A1 m1 c1 B0 d0 B1 k1 d1 p s hp hs h1.1 h3.1 a b c d W);have H0:=za h0;have H1:=za h1;have H2:=za h2;have H3:=za h3;clear h0 h1 h2 h3;have CO:=za (fun (W:World) (h:zk W B1 k1 d1 s)=>zf0 n hn B0 d0 B1 k1 d1 s hs W h)
 unfold yW at CO;obtain ⟨av,al,ah,ab⟩:=a;obtain ⟨bv,bl,bh,bb⟩:=b;obtain ⟨cv,cl,ch,cb⟩:=c;obtain ⟨dv,dl,dh,db⟩:=d;unfold j6 at RI ⊢;dsimp only at RI ⊢;go_enter Tryz.func23,Tryz.ntmps23;go_wp2_with (first | (refine qX rfl 76 _ rfl _ rfl ?_;intro W9 hW9;have bx9:=At.of_new hW9)|refine qg rfl 76 _ rfl _ _ _ rfl (bx9.load76 rfl) ?_)
 clear bx9;subst hW9;obtain ⟨W0,hW0⟩:=zc ((w.alloc (.cells #[.slice A0 n c0,.int .i64 (n:Int),.int .i64 (n:Int),.slice A1 m1 c1,.slice B0 n d0,.int .i64 (n:Int),.int .i64 (n:Int),.slice B1 k1 d1,av,al,ah,ab,bv,bl,bh,bb,cv,cl,ch,cb,dv,dl,dh,db] 76)));obtain ⟨bx,b0,hsz⟩:=z6 hW0;rw [hW0];clear hW0;have F:=za (((((Off.start b0 hsz).argN b0 (H0.out)).argN b0 (H1.out)).argN b0 (H2.out)).argN b0 (H3.out))
 have BX:=za bx;clear bx b0 hsz;obtain ⟨g,hg⟩:=zc (w.heap.size);rw [hg] at F BX
 try simp only [hg]
 refine (RI.out _).mono ?_;rintro e w1 ⟨rfl,hb⟩;replace F:=zd F hb;replace BX:=ze BX hb;clear hb;have x0:=(BX.out.1).cell 0;have x1:=(BX.out.1).cell 1;have x2:=(BX.out.1).cell 2;have x3:=(BX.out.1).cell 3;have x4:=(BX.out.1).cell 4;have x5:=(BX.out.1).cell 5;have x6:=(BX.out.1).cell 6;have x7:=(BX.out.1).cell 7;go_wp2_with fail;refine (CO.out _ F.out.out.2).mono ?_;rintro e w2 ⟨Q,q,r,rfl,ho,hb,hfr⟩
 unfold zE;have fN9:∀b o,Q=some ⟨b,o,none⟩→g+1≤b:=fun b o e=>Nat.le_trans F.out.hiw (hfr b o e);replace F:=za (F.out.gotN hb ho hfr);replace BX:=ze BX hb;clear hb x0 x1 x2 x3 x4 x5 x6 x7 ho hfr;have fld:∀W:World,(Instr.field 65 (.agg #[.int .i64 (n:Int),.int .i64 (n:Int),.slice Q q r]) 2).run Tryz.prog W=.ok (.slice Q q r) W:=fun W=>by kernel_rfl
 exact Xbg
theorem zcU (n:Nat) (hn:n≤4) (A0:Option Addr) (c0:Nat) (A1:Option Addr) (m1 c1:Nat) (B0:Option Addr) (d0:Nat) (B1:Option Addr) (k1 d1:Nat) (x p y s:List Num) (hp:zt n n p) (hs:zt n n s) (a b c d:Num) (w:World) (h0:zk w A0 n c0 x) (h1:zk w A1 m1 c1 p) (h2:zk w B0 n d0 y) (h3:zk w B1 k1 d1 s) :
  Calls Tryz.prog 92 #[j6 n A0 c0 A1 m1 c1 B0 d0 B1 k1 d1 a b c d,.int .i64 0] w fun e w'=>e=.returned (zE n n A1 m1 c1)∧Below w.heap.size w w':=by
 have hu:=Tryz.underlying76;have hu1:=Tryz.underlying67;have hu2:=Tryz.underlying69;have hu3:=Tryz.underlying65;have hu4:=Tryz.underlying71;have RI:=za (fun W=>jr n hn A0 c0 A1 m1 c1 B0 d0 B1 k1 d1 p s hp hs h1.1 h3.1 a b c d W);have H0:=za h0;have H1:=za h1;have H2:=za h2;have H3:=za h3;clear h0 h1 h2 h3;obtain ⟨av,al,ah,ab⟩:=a;obtain ⟨bv,bl,bh,bb⟩:=b;obtain ⟨cv,cl,ch,cb⟩:=c
 obtain ⟨dv,dl,dh,db⟩:=d;unfold j6 at RI ⊢;dsimp only at RI ⊢;unfold zE;go_enter Tryz.func92,Tryz.ntmps92;go_wp2_with (refine qX rfl 76 _ rfl _ rfl ?_;intro W9 hW9;have bx9:=At.of_new hW9;have e1:=(bx9.alloc (.cells #[.int .i64 0,.int .i64 0,.slice none 0 0] 65)).cell 1;have e2:=(bx9.alloc (.cells #[.int .i64 0,.int .i64 0,.slice none 0 0] 65)).cell 2;have e3:=(bx9.alloc (.cells #[.int .i64 0,.int .i64 0,.slice none 0 0] 65)).cell 3;have q0:=(At.new W9 65 #[.int .i64 0,.int .i64 0,.slice none 0 0]).cell 0;have f0:=(At.new W9 65 #[.int .i64 0,.int .i64 0,.slice none 0 0]).frozen 0;have q1:=(At.new W9 65 #[.int .i64 0,.int .i64 0,.slice none 0 0]).cell 1;have f1:=(At.new W9 65 #[.int .i64 0,.int .i64 0,.slice none 0 0]).frozen 1;have q2:=(At.new W9 65 #[.int .i64 0,.int .i64 0,.slice none 0 0]).cell 2;have f2:=(At.new W9 65 #[.int .i64 0,.int .i64 0,.slice none 0 0]).frozen 2)
 obtain ⟨rq0,rq1,rq2⟩:=(At.new W9 65 #[.int .i64 (n:Int),.int .i64 (n:Int),.slice A1 m1 c1]).three;have b9:Below w.heap.size w W9:=by rw [←hW9];exact zg (Below.refl _ _) _
 exact bodyPost_ret (v:=.agg #[.int .i64 (n:Int),.int .i64 (n:Int),.slice A1 m1 c1]) (by simp [results,Tryz.results92,go_sem,rq0,rq1,rq2]) rfl ⟨rfl,b9.alloc b9.size _⟩
theorem zcT (n:Nat) (hn:n≤4) (A0:Option Addr) (c0:Nat) (A1:Option Addr) (m1 c1:Nat) (B0:Option Addr) (d0:Nat) (B1:Option Addr) (k1 d1:Nat) (x p y s:List Num) (hp:zt n n p) (hs:zt n n s) (a b c d:Num) (w:World) (h0:zk w A0 n c0 x) (h1:zk w A1 m1 c1 p) (h2:zk w B0 n d0 y) (h3:zk w B1 k1 d1 s) :
  Calls Tryz.prog 92 #[j6 n A0 c0 A1 m1 c1 B0 d0 B1 k1 d1 a b c d,.int .i64 1] w fun e w'=>e=.returned (zE n n B1 k1 d1)∧Below w.heap.size w w':=by
 have hu:=Tryz.underlying76;have hu1:=Tryz.underlying67;have hu2:=Tryz.underlying69;have hu3:=Tryz.underlying65;have hu4:=Tryz.underlying71;have RI:=za (fun W=>jr n hn A0 c0 A1 m1 c1 B0 d0 B1 k1 d1 p s hp hs h1.1 h3.1 a b c d W);have H0:=za h0;have H1:=za h1;have H2:=za h2;have H3:=za h3;clear h0 h1 h2 h3;obtain ⟨av,al,ah,ab⟩:=a;obtain ⟨bv,bl,bh,bb⟩:=b;obtain ⟨cv,cl,ch,cb⟩:=c
 obtain ⟨dv,dl,dh,db⟩:=d;unfold j6 at RI ⊢;dsimp only at RI ⊢;unfold zE;go_enter Tryz.func92,Tryz.ntmps92;go_wp2_with (refine qX rfl 76 _ rfl _ rfl ?_;intro W9 hW9;have bx9:=At.of_new hW9;have e5:=(bx9.alloc (.cells #[.int .i64 0,.int .i64 0,.slice none 0 0] 65)).cell 5;have e6:=(bx9.alloc (.cells #[.int .i64 0,.int .i64 0,.slice none 0 0] 65)).cell 6;have e7:=(bx9.alloc (.cells #[.int .i64 0,.int .i64 0,.slice none 0 0] 65)).cell 7;have q0:=(At.new W9 65 #[.int .i64 0,.int .i64 0,.slice none 0 0]).cell 0;have f0:=(At.new W9 65 #[.int .i64 0,.int .i64 0,.slice none 0 0]).frozen 0;have q1:=(At.new W9 65 #[.int .i64 0,.int .i64 0,.slice none 0 0]).cell 1;have f1:=(At.new W9 65 #[.int .i64 0,.int .i64 0,.slice none 0 0]).frozen 1;have q2:=(At.new W9 65 #[.int .i64 0,.int .i64 0,.slice none 0 0]).cell 2;have f2:=(At.new W9 65 #[.int .i64 0,.int .i64 0,.slice none 0 0]).frozen 2)
 obtain ⟨rq0,rq1,rq2⟩:=(At.new W9 65 #[.int .i64 (n:Int),.int .i64 (n:Int),.slice B1 k1 d1]).three;have b9:Below w.heap.size w W9:=by rw [←hW9];exact zg (Below.refl _ _) _
 exact bodyPost_ret (v:=.agg #[.int .i64 (n:Int),.int .i64 (n:Int),.slice B1 k1 d1]) (by simp [results,Tryz.results92,go_sem,rq0,rq1,rq2]) rfl ⟨rfl,b9.alloc b9.size _⟩
end
theorem XbG {P:Prop} (h:P:=by
 go_wp2_with fail;go_ret;exact ⟨rfl,by first | exact F.out.out|(rw [hg];exact F.out.out)⟩) : P := h
section
attribute [local go_sem] Oper.semAt_some
def zcY (a b:Num):Int:=if (a.fine&&b.fine)=true then mx (mx (a.l-b.h) (b.l-a.h)) 0 else 0
theorem zhc {v l h:Int} {b:Bool} (e:Js v l h b=true):-1125899906842624≤l∧l≤1125899906842624∧-1125899906842624≤h∧h≤1125899906842624:=by
 unfold Js at e;simp only [Bool.and_eq_true] at e;have h1:=Yh.mp e.2.1;have h2:=Yh.mp e.2.2.1;omega
theorem zfx (a b:Num) (w:World):Calls Tryz.prog 162 #[a.val,b.val] w fun e w'=>e=.returned (.int .i64 (zcY a b))∧Below w.heap.size w w':=by
 obtain ⟨av,al,ah,ab⟩:=a;obtain ⟨bv,bl,bh,bb⟩:=b;have FA:=za (fun W=>JX av al ah ab W);have FB:=za (fun W=>JX bv bl bh bb W);have hu:=Tryz.underlying71;unfold Num.val zcY Num.fine;dsimp only;rcases Bool.eq_false_or_eq_true (Js av al ah ab) with ha|ha
 ·rcases Bool.eq_false_or_eq_true (Js bv bl bh bb) with hb|hb
  ·have ba:=zhc ha
   have bb':=zhc hb;rw [ha] at FA;rw [hb] at FB;rw [ha,hb];clear ha hb;have e1:max (max (al-bh) (bl-ah)) 0=mx (mx (al-bh) (bl-ah)) 0:=by unfold mx;split<;>split<;>omega
   rw [show (if (true&&true)=true then mx (mx (al-bh) (bl-ah)) 0 else 0)=max (max (al-bh) (bl-ah)) 0 from e1.symm];clear e1;go_enter Tryz.func162,Tryz.ntmps162;go_wp2_with fail;obtain ⟨W0,hW0⟩:=zc (((w.alloc (.cells #[av,al,ah,ab] 71)).alloc (.cells #[bv,bl,bh,bb] 71)));obtain ⟨bx,b0,hsz⟩:=y7 hW0;rw [hW0];clear hW0;have F:=za (Off.start b0 hsz);have BX:=za bx;clear bx b0 hsz
   obtain ⟨g,hg⟩:=zc (w.heap.size);rw [hg] at F BX
   try simp only [hg]
   try go_wp2_with fail
   refine (FA.out _).mono ?_;rintro e w1 ⟨rfl,hb⟩;replace F:=zd F hb;replace BX:=ze BX hb;clear hb;have x0:=(BX.out.2.1).cell 0;have x1:=(BX.out.2.1).cell 1;have x2:=(BX.out.2.1).cell 2;have x3:=(BX.out.2.1).cell 3;go_wp2_with fail;refine (FB.out _).mono ?_;rintro e w2 ⟨rfl,hb⟩;replace F:=zd F hb;replace BX:=ze BX hb;clear hb;clear x0 x1 x2 x3;have x0:=(BX.out.1).cell 0;have x1:=(BX.out.1).cell 1
   have x2:=(BX.out.1).cell 2;have x3:=(BX.out.1).cell 3;have y0:=(BX.out.2.1).cell 0;have y1:=(BX.out.2.1).cell 1;have y2:=(BX.out.2.1).cell 2;have y3:=(BX.out.2.1).cell 3;go_wp2_with fail
   all_goals (go_ret;exact ⟨by first | rfl|(refine congrArg Ending.returned (congrArg (Value.int IntKind.i64) ?_);omega),by first | exact F.out.out|(rw [hg];exact F.out.out)⟩)
  ·rw [ha] at FA;rw [hb] at FB;rw [ha,hb]
   clear ha hb;simp only [Bool.and_false,Bool.false_eq_true,if_false];go_enter Tryz.func162,Tryz.ntmps162;go_wp2_with fail;obtain ⟨W0,hW0⟩:=zc (((w.alloc (.cells #[av,al,ah,ab] 71)).alloc (.cells #[bv,bl,bh,bb] 71)));obtain ⟨bx,b0,hsz⟩:=y7 hW0;rw [hW0];clear hW0;have F:=za (Off.start b0 hsz);have BX:=za bx;clear bx b0 hsz;obtain ⟨g,hg⟩:=zc (w.heap.size);rw [hg] at F BX
   try simp only [hg]
   try go_wp2_with fail
   refine (FA.out _).mono ?_;rintro e w1 ⟨rfl,hb⟩;replace F:=zd F hb;replace BX:=ze BX hb;clear hb;have x0:=(BX.out.2.1).cell 0;have x1:=(BX.out.2.1).cell 1;have x2:=(BX.out.2.1).cell 2;have x3:=(BX.out.2.1).cell 3;go_wp2_with fail;refine (FB.out _).mono ?_;rintro e w2 ⟨rfl,hb⟩;replace F:=zd F hb;replace BX:=ze BX hb;clear hb;clear x0 x1 x2 x3;exact XbG
 ·rw [ha] at FA;rw [ha]
  clear ha;simp only [Bool.false_and,Bool.false_eq_true,if_false];go_enter Tryz.func162,Tryz.ntmps162;go_wp2_with fail;obtain ⟨W0,hW0⟩:=zc (((w.alloc (.cells #[av,al,ah,ab] 71)).alloc (.cells #[bv,bl,bh,bb] 71)));obtain ⟨bx,b0,hsz⟩:=y7 hW0;rw [hW0];clear hW0;have F:=za (Off.start b0 hsz);have BX:=za bx;clear bx b0 hsz;obtain ⟨g,hg⟩:=zc (w.heap.size);rw [hg] at F BX
  try simp only [hg]
  try go_wp2_with fail
  refine (FA.out _).mono ?_;rintro e w1 ⟨rfl,hb⟩;replace F:=zd F hb;replace BX:=ze BX hb;clear hb;exact XbG
end
theorem Xal {P:Prop} (h:P:=by
 intro v1 w3 hown3 hgrow3 hat3;replace hgrow3:=zfN hgrow3;replace hat3:v1.ownBlock=v.ownBlock∨v1.ownBlock=some W2.heap.size:=hat3;refine hK _ _ (zI ((zC.refl _ _).grown (hgrow3) (fun k e=>.inl (qR k e)))) ?_;clear hK K;have hSW:∀k,S k→k<W2.heap.size:=fun k hk=>Nat.lt_of_lt_of_le (hS k hk) hsW;have K3:=za ((KB.refl S W2).grown hSW hgrow3 hrowS);have X3:=za (H.out.box.grown hgrow3 hgo)
 have F3:=za (jF (B:=V0.heap.size) H.out.own hgrow3)
 have hS3:∀q,v1.ownBlock=some q→¬S q:=fun q e=>by
  rcases hat3 with e'|e'
  ·exact hrowS q (by rw [←e'];exact e)
  ·rw [e'] at e;cases e;exact fun hk=>by have:=hS _ hk;omega
 rw [←QN] at hown3;have O3:=za hown3;clear hown3 hgrow3 hat3;obtain ⟨Q5,n5,c5,rfl⟩:=zS O3.out;have e0:=X3.out.cell 0;have z0:=X3.out.frozen 0;refine zZ rfl (fun K hK=>?_);go_simp;refine hK _ _ ?_;clear hK K;have hnb:∀q,(Value.slice Q5 n5 c5).ownBlock=some q→q≠h:=fun q e e'=>zbn O3.out X3.out (by rw [e,e']);refine ⟨F3.out.trans (zV _ _ _ _),.slice Q5 n5 c5,X3.out.set 0 _ rfl,O3.out.kept (jv w3 h 0 _) ?_,(H.out.kb.trans K3.out).set hSo _ _,hS3⟩
 cases e:(Value.slice Q5 n5 c5).ownBlock with
 | none=>exact .inl rfl
 | some q=>exact .inr (fun e'=>hnb q e (by injection e'))) : P := h
theorem Xav {P:Prop} (h:P:=by
 rintro D r' W hD hrr ⟨v,hv⟩ hK;rw [show r'=n from hrr] at hv;have HK:=za hK;have H:=za hv;have hD':=za hD;obtain ⟨Q1,n1,c1,rfl⟩:=zS hv.own;clear hv hK hD;have s0:=H.out.box.cell 0;have hDl:D<W.heap.size:=(Array.getElem?_eq_some_iff.1 HK.out).1;have BB:=za (H.out.kb.below (fun k hk=>hSw k hk));gi_wp2_with fail;have hWW:=(hBw.trans BB.out).size;refine ⟨by simp,.inl ⟨_,_,rfl,run_takeDeferred HK.out,?_⟩⟩
 exact ⟨.slice Q1 n1 c1,(by simp only [results,Tryz.results59];simp [go_sem]),Q1,n1,c1,rfl,QV (jW H.out.own (by omega)) (.deferred none) HK.out rfl,qu (hBw.trans BB.out) hWW (by have:=hD'.out;omega) _⟩) : P := h
section
attribute [local go_sem] Oper.semAt_some ve
theorem QM {F:Fence} {n:Nat} {P:Program} {ops:Array Oper} {rest:List Oper} {o:Oper} {a:Act} {Q:Exit→Act→World→Prop} {w:World} (hF:zbk F) (hgd:o.guard=none) (t:TypeId) (x:Operand) (ho:o.op=.box t x) (cs:Array Value) (hv:a.eval x=.agg cs)
  (h:∀W', w.alloc (.cells cs t)=W'→wpListIn F n P ops Q rest (a.put o.dst (.pointer (some ⟨w.heap.size,0,none⟩))) W'):wpListIn F n P ops Q (o::rest) a w :=
 qC hF (by unfold qY;rw [ho]) hgd fun K hK=>by
  exact Xbf
theorem yu {F:Fence} {n:Nat} {P:Program} {ops:Array Oper} {rest:List Oper} {o:Oper} {a:Act} {Q:Exit→Act→World→Prop} {w:World} (hF:zbk F) (hgd:o.guard=none) (t:TypeId) (x:Operand) (ho:o.op=.load t x) (b i:Nat) (cs:Array Value) (hx:a.eval x=.pointer (some ⟨b,i,none⟩))
  (hr:(Instr.loadAt t (.pointer (some ⟨b,i,none⟩))).run P w=.ok (.agg cs) w) (h:wpListIn F n P ops Q rest (a.put o.dst (.agg cs)) w):wpListIn F n P ops Q (o::rest) a w :=
 qC hF (by unfold qY;rw [ho]) hgd fun K hK=>by
  exact Xby
structure zfG (S:Nat→Prop) (Wb:World) (B:Nat) (go:Nat) (ys:List Num) (v:Value) (W:World):Prop where
 box:At W go 63 #[v]
 own:zH W B v ys
 kb:KB S Wb W
 row:∀k,v.ownBlock=some k→¬S k
theorem zfG.grown {S:Nat→Prop} {Wb W W':World} {B go:Nat} {ys:List Num} {v:Value} {row:Option Nat} (h:zfG S Wb B go ys v W) (hS:∀k,S k→k<Wb.heap.size) (hgr:W.grownBy W' row) (hr:∀r,row=some r→Wb.heap.size≤r∧∃o:Obj,W.heap[r]?=some o∧o.isCells=false):zfG S Wb B go ys v W' :=
 ⟨qf h.box hgr (fun r e=>(hr r e).2),j7 h.own hgr (fun r e=>(hr r e).2),YU h.kb hS (Nat.le_refl _) hgr (fun r e=>(hr r e).1),h.row⟩
theorem zfG.below {S:Nat→Prop} {Wb W W':World} {B go:Nat} {ys:List Num} {v:Value} (h:zfG S Wb B go ys v W) (hS:∀k,S k→k<Wb.heap.size) (hb:Below W.heap.size W W'):zfG S Wb B go ys v W' :=
 ⟨h.box.below hb,h.own.below hb,h.kb.call hS hb,h.row⟩
theorem zbn {w:World} {B g:Nat} {v u:Value} {xs:List Num} (h:zH w B v xs) (hb:At w g 63 #[u]) (e:v.ownBlock=some g):False:=by
 rcases h.2 with ⟨rfl,_⟩|⟨q,cap,cur,rfl,_,hq,_⟩
 ·cases e
 ·have:q=g:=by simpa [Value.ownBlock] using e
  subst this;rw [hb] at hq;cases hq
def yg (n:Nat) (x m:List Num) (i:Nat):List Num:=x++(List.range i).flatMap fun j=>(qz n m j).take (j+1)
def jw (n:Nat) (x m:List Num):List Num:=yg n x m n
theorem QN (n:Nat) (x m:List Num) (i:Nat):yg n x m (i+1)=yg n x m i++(qz n m i).take (i+1):=by unfold yg;rw [List.range_succ,List.flatMap_append];simp
theorem Jv {n:Nat} {x m:List Num} (h:zt n n m) {i:Nat} (hi:i≤n):(yg n x m i).length≤x.length+i*n:=by
 induction i with
 | zero=>simp [yg]
 | succ i ih =>
  rw [QN,List.length_append,List.length_take,qj h (by omega),Nat.add_mul,Nat.one_mul];have:=ih (by omega);omega
theorem zd7 (n : Nat) (hn : n ≤ 4) (A0 : Option Addr) (c0 : Nat) (A1 : Option Addr) (m1 c1 : Nat) (B0 : Option Addr) (d0 : Nat) (B1 : Option Addr) (k1 d1 : Nat) (x p y s : List Num) (hp : zt n n p) (hs : zt n n s) (a b c d : Num) (w : World) (h0 : zk w A0 n c0 x) (h1 : zk w A1 m1 c1 p) (h2 : zk w B0 n d0 y) (h3 : zk w B1 k1 d1 s) :
  Calls Tryz.prog 59 #[j6 n A0 c0 A1 m1 c1 B0 d0 B1 k1 d1 a b c d, .int .i64 0] w (jl (jw n x p) w) := by
 have q63 : ∀ (w : World) (a : Option Addr) (n c n' c' : Nat), (binOp .eql 63 (.slice a n c) (.slice none n' c')).run Tryz.prog w = .ok a.isNone w := fun w a n c n' c' => Lib.run_eql_slice_nil w _ _ a n c n' c' Tryz.underlying63;have hn1 := hp.r1;have ST := za (fun W h0 h1 h2 h3 => QY n hn A0 c0 A1 m1 c1 B0 d0 B1 k1 d1 x p y s hp hs a b c d W h0 h1 h2 h3);have MT := za (fun W h0 h1 h2 h3 => zcU n hn A0 c0 A1 m1 c1 B0 d0 B1 k1 d1 x p y s hp hs a b c d W h0 h1 h2 h3)
 have AL := za (fun W => vT n n A1 m1 c1 W);unfold zE at MT AL;have hu := Tryz.underlying76;have hu1 := Tryz.underlying67;have hu2 := Tryz.underlying69;have hu3 := Tryz.underlying65;have hu4 := Tryz.underlying71;have H0 := za h0;have H1 := za h1;have H2 := za h2;have H3 := za h3;clear h0 h1 h2 h3;obtain ⟨av, al, ah, ab⟩ := a;obtain ⟨bv, bl, bh, bb⟩ := b;obtain ⟨cv, cl, ch, cb⟩ := c;obtain ⟨dv, dl, dh, db⟩ := d
 unfold j6 at ST MT ⊢;dsimp only at ST MT ⊢;refine (callsIn_wide (n := 9)).1 ?_;refine callsIn_of_wp_marks Tryz.func59 rfl trivial ?_ rfl;simp only [Tryz.ntmps59, List.size_toArray, List.length_cons, List.length_nil, Nat.reduceAdd, Nat.reduceSub, Array.replicate_succ, Array.replicate_zero, List.push_toArray, List.append_toArray, List.nil_append, List.cons_append];gi_wp2_with (first | (refine QM qJ rfl 76 _ rfl _ rfl ?_; intro W9 hW9; have bx9 := At.of_new hW9) | refine yu qJ rfl 76 _ rfl _ _ _ rfl (bx9.load76 rfl) ?_)
 clear bx9;subst hW9;obtain ⟨W0, hW0⟩ := zc ((w.alloc (.cells #[.slice A0 n c0, .int .i64 (n : Int), .int .i64 (n : Int), .slice A1 m1 c1, .slice B0 n d0, .int .i64 (n : Int), .int .i64 (n : Int), .slice B1 k1 d1, av, al, ah, ab, bv, bl, bh, bb, cv, cl, ch, cb, dv, dl, dh, db] 76)));obtain ⟨bx, b0, hsz⟩ := z6 hW0;rw [hW0];clear hW0;have F := za (((((Off.start b0 hsz).argN b0 (H0.out)).argN b0 (H1.out)).argN b0 (H2.out)).argN b0 (H3.out))
 have BX := za bx;clear bx b0 hsz;obtain ⟨g, hg⟩ := zc (w.heap.size);rw [hg] at F BX
 try simp only [hg]
 refine (zw 8 (ST.out _ F.out.out.1.1.1.2 F.out.out.1.1.2 F.out.out.1.2 F.out.out.2)).mono ?_;rintro e w1 ⟨Q, q, r, rfl, ho, hb⟩;obtain rfl : n = q := by have := zL ho; have := H0.out.1; omega
 replace F := zd F hb;replace BX := ze BX hb;have HO := za (jW ho (show g + 1 ≤ W0.heap.size from F.out.up_));clear hb ho
 obtain ⟨qb, rfl⟩ : ∃ qb, Q = some ⟨qb, 0, none⟩ := by
  obtain ⟨qb, cap, e, _⟩ := qk HO.out (by have := H0.out.1; omega);injection e with e1 e2 e3;exact ⟨qb, e1⟩
 have bx9 := (BX.out.1).alloc (.cells #[.slice (some ⟨qb, 0, none⟩) n r] 63);gi_wp2_with (refine yu qJ rfl 76 _ rfl _ _ _ rfl (bx9.load76 rfl) ?_)
 clear bx9;have hql := (World.ownsRow.lt HO.out qb rfl).2;have hqg := (World.ownsRow.lt HO.out qb rfl).1;replace F := za F.out.now;obtain ⟨Xh, hXh⟩ := zc (w1.alloc (.cells #[.slice (some ⟨qb, 0, none⟩) n r] 63));obtain ⟨bx, b0, hsz⟩ := z6 hXh;rw [hXh];have lh := F.out.hiw;replace F := zd F b0;replace BX := ze BX b0;replace HO := za (HO.out.below b0);have O := za bx.1;obtain ⟨h, hh⟩ := zc (w1.heap.size)
 rw [hh] at F lh O hql
 try simp only [hh]
 clear bx b0 hsz hh hXh;refine (zw 8 (MT.out _ F.out.out.1.1.1.2 F.out.out.1.1.2 F.out.out.1.2 F.out.out.2)).mono ?_;rintro e w2 ⟨rfl, hb⟩;replace F := zd F hb;replace BX := ze BX hb;replace HO := za (HO.out.below hb);replace O := za (O.out.below hb);clear hb;gi_wp2_with fail;refine (zw 8 (AL.out _)).mono ?_;rintro e w3 ⟨rfl, rfl⟩;have hoi := O.out.lt;have hqi := (World.ownsRow.lt HO.out qb rfl).2
 replace F := za F.out.now;obtain ⟨Xhi, hXhi⟩ := zc (w2.alloc (.cells #[.int .i64 (n : Int), .int .i64 (n : Int), .slice A1 m1 c1] 65));obtain ⟨bx, b0, hsz⟩ := z6 hXhi;rw [hXhi];have lhi := F.out.hiw;replace F := zd F b0;replace BX := ze BX b0;replace HO := za (HO.out.below b0);replace O := za (O.out.below b0);have I := za bx.1;obtain ⟨hi, hhi⟩ := zc (w2.heap.size);rw [hhi] at F lhi I hoi hqi
 try simp only [hhi]
 clear bx b0 hsz hhi hXhi
 try simp only [hhi]
 obtain ⟨V0, hV0⟩ := zc (Xhi);rw [hV0] at F BX HO O I ⊢;clear hV0;have hol := O.out.lt;have hil := I.out.lt;obtain ⟨S, hSd⟩ : ∃ S : Nat → Prop, S = fun k => k < V0.heap.size ∧ k ≠ h ∧ k ≠ qb := ⟨_, rfl⟩
 have hS : ∀ k, S k → k < V0.heap.size := fun k h => by rw [hSd] at h; exact h.1
 have hSo : ¬ S h := fun h => by rw [hSd] at h; exact h.2.1 rfl
 have hSq : ¬ S qb := fun h => by rw [hSd] at h; exact h.2.2 rfl
 have hSi : ∀ k, k < V0.heap.size → k ≠ h → k ≠ qb → S k := fun k h1 h2 h3 => by rw [hSd]; exact ⟨h1, h2, h3⟩
 clear hSd;have hiw := F.out.hiw;have hqg := (World.ownsRow.lt HO.out qb rfl).1;have hSw : ∀ k, k < w.heap.size → S k := fun k hk => hSi k (by omega) (by omega) (by omega);have hBw : Below w.heap.size w V0 := by rw [hg]; exact F.out.out.1.1.1.1
 gi_wp2_with fail
 refine jS rfl (by decide) (gf := 124) (lb := #[.pointer (some ⟨hi, 0, none⟩)]) rfl trivial yw
  (y9 6 S hi n n A1 m1 c1 p hp V0 (hSi _ (by omega) (by omega) (by omega)) I.out (fun W' q => q.nums H1.out hBw hSw)) (fun s W0 args s' W1 h => (V3.size _ _ _ _ _ h).trans rfl)
  (fun i W => ∃ v, zfG S V0 (g + 1) h (yg n x p i) v W) (fun _ _ ⟨_, k⟩ => k.kb) (fun _ _ _ _ ⟨v, k⟩ hgr hr => ⟨v, k.grown hS hgr hr⟩) (fun _ _ _ ⟨v, k⟩ hb => ⟨v, k.below hS hb⟩)
  ⟨.slice (some ⟨qb, 0, none⟩) n r, O.out, by simpa [yg] using HO.out, KB.refl S V0, fun k e => by cases e; exact hSq⟩ ?round ?done
 case round =>
  rintro lp i i' args V1 V2 hlp ⟨v, hv⟩ ⟨rl, hrl⟩ hb ⟨hir, rfl, row, rfl, hrow⟩;have H1 := za (hv.below hS hb);have HR := za hrow;obtain ⟨ra, rn, rc, rfl⟩ := zS hrow;clear hv hrow hrl hb;gi_wp2_with fail;refine ⟨KeepsFrom.refl _ _, fun W2 hgr ho _ => ?_⟩;have H := za (H1.out.grown hS hgr (fun r e => by cases e; exact ⟨hlp, ho⟩));have HR2 := za (j7 HR.out hgr (fun r e => by cases e; exact ho)).nums
  have hrn : n = rn := by have := zL HR.out; rw [qj hp hir] at this; exact this.symm
  obtain ⟨rb, rfl⟩ : ∃ rb, ra = some ⟨rb, 0, none⟩ := by
   obtain ⟨rb, cap, e, _⟩ := qk HR.out (by rw [qj hp hir]; omega);injection e with e1 e2 e3;exact ⟨rb, e1⟩
  have NT := za (HR2.out.take (i + 1) (by omega));have hrc : rn ≤ rc := HR2.out.2.1;have o0 := H.out.box.cell 0;have hgo : some h ≠ v.ownBlock := fun e => zbn H.out.own H.out.box e.symm;have hsW := H.out.kb.size
  have hll : (yg n x p i).length ≤ 600 := by
   have h1 := Jv (x := x) hp (show i ≤ n by omega);have h2 : i * n ≤ 4 * 4 := Nat.mul_le_mul (by omega) hn;have h3 := H0.out.1;omega
  have hrowS := H.out.row;clear hgr ho H1;gi_wp2_with fail;refine jV (by kernel_rfl) (by kernel_rfl) (by rintro ⟨a, w, h⟩; exact h) (jH v.ownBlock.toList [0, 1, 2, 3, 4] [5, 6] (.cons rfl (.cons rfl (.cons rfl (.cons rfl (.cons rfl .nil))))) (.cons rfl (.cons rfl .nil)) (by kernel_rfl) (fun c a d v w h => h) ?_);have ko0 := fun x => But.cell o0 (zO hgo) x
  repeat (go_big_quiet_step (fail))
  refine wpQuiet_nil ?_;clear ko0;refine zp rfl (fun K hK => ?_);refine jE (.tmp 19) (.tmp 23) rfl (g + 1) v (yg n x p i) _ (some ⟨rb, 0, none⟩) (i + 1) rc rfl H.out.own.drew rfl (by omega) NT.out.drew (by omega) (by show g + 1 ≤ W2.heap.size; omega) ?_;exact Xal
 case done =>
  exact Xav
theorem zd6 (n : Nat) (hn : n ≤ 4) (A0 : Option Addr) (c0 : Nat) (A1 : Option Addr) (m1 c1 : Nat) (B0 : Option Addr) (d0 : Nat) (B1 : Option Addr) (k1 d1 : Nat) (x p y s : List Num) (hp : zt n n p) (hs : zt n n s) (a b c d : Num) (w : World) (h0 : zk w A0 n c0 x) (h1 : zk w A1 m1 c1 p) (h2 : zk w B0 n d0 y) (h3 : zk w B1 k1 d1 s) :
  Calls Tryz.prog 59 #[j6 n A0 c0 A1 m1 c1 B0 d0 B1 k1 d1 a b c d, .int .i64 1] w (jl (jw n y s) w) := by
 have q63 : ∀ (w : World) (a : Option Addr) (n c n' c' : Nat), (binOp .eql 63 (.slice a n c) (.slice none n' c')).run Tryz.prog w = .ok a.isNone w := fun w a n c n' c' => Lib.run_eql_slice_nil w _ _ a n c n' c' Tryz.underlying63;have hn1 := hp.r1;have ST := za (fun W h0 h1 h2 h3 => VB n hn A0 c0 A1 m1 c1 B0 d0 B1 k1 d1 x p y s hp hs a b c d W h0 h1 h2 h3);have MT := za (fun W h0 h1 h2 h3 => zcT n hn A0 c0 A1 m1 c1 B0 d0 B1 k1 d1 x p y s hp hs a b c d W h0 h1 h2 h3)
 have AL := za (fun W => vT n n B1 k1 d1 W);unfold zE at MT AL;have hu := Tryz.underlying76;have hu1 := Tryz.underlying67;have hu2 := Tryz.underlying69;have hu3 := Tryz.underlying65;have hu4 := Tryz.underlying71;have H0 := za h0;have H1 := za h1;have H2 := za h2;have H3 := za h3;clear h0 h1 h2 h3;obtain ⟨av, al, ah, ab⟩ := a;obtain ⟨bv, bl, bh, bb⟩ := b;obtain ⟨cv, cl, ch, cb⟩ := c;obtain ⟨dv, dl, dh, db⟩ := d
 unfold j6 at ST MT ⊢;dsimp only at ST MT ⊢;refine (callsIn_wide (n := 9)).1 ?_;refine callsIn_of_wp_marks Tryz.func59 rfl trivial ?_ rfl;simp only [Tryz.ntmps59, List.size_toArray, List.length_cons, List.length_nil, Nat.reduceAdd, Nat.reduceSub, Array.replicate_succ, Array.replicate_zero, List.push_toArray, List.append_toArray, List.nil_append, List.cons_append];gi_wp2_with (first | (refine QM qJ rfl 76 _ rfl _ rfl ?_; intro W9 hW9; have bx9 := At.of_new hW9) | refine yu qJ rfl 76 _ rfl _ _ _ rfl (bx9.load76 rfl) ?_)
 clear bx9;subst hW9;obtain ⟨W0, hW0⟩ := zc ((w.alloc (.cells #[.slice A0 n c0, .int .i64 (n : Int), .int .i64 (n : Int), .slice A1 m1 c1, .slice B0 n d0, .int .i64 (n : Int), .int .i64 (n : Int), .slice B1 k1 d1, av, al, ah, ab, bv, bl, bh, bb, cv, cl, ch, cb, dv, dl, dh, db] 76)));obtain ⟨bx, b0, hsz⟩ := z6 hW0;rw [hW0];clear hW0;have F := za (((((Off.start b0 hsz).argN b0 (H0.out)).argN b0 (H1.out)).argN b0 (H2.out)).argN b0 (H3.out))
 have BX := za bx;clear bx b0 hsz;obtain ⟨g, hg⟩ := zc (w.heap.size);rw [hg] at F BX
 try simp only [hg]
 refine (zw 8 (ST.out _ F.out.out.1.1.1.2 F.out.out.1.1.2 F.out.out.1.2 F.out.out.2)).mono ?_;rintro e w1 ⟨Q, q, r, rfl, ho, hb⟩;obtain rfl : n = q := by have := zL ho; have := H2.out.1; omega
 replace F := zd F hb;replace BX := ze BX hb;have HO := za (jW ho (show g + 1 ≤ W0.heap.size from F.out.up_));clear hb ho
 obtain ⟨qb, rfl⟩ : ∃ qb, Q = some ⟨qb, 0, none⟩ := by
  obtain ⟨qb, cap, e, _⟩ := qk HO.out (by have := H2.out.1; omega);injection e with e1 e2 e3;exact ⟨qb, e1⟩
 have bx9 := (BX.out.1).alloc (.cells #[.slice (some ⟨qb, 0, none⟩) n r] 63);gi_wp2_with (refine yu qJ rfl 76 _ rfl _ _ _ rfl (bx9.load76 rfl) ?_)
 clear bx9;have hql := (World.ownsRow.lt HO.out qb rfl).2;have hqg := (World.ownsRow.lt HO.out qb rfl).1;replace F := za F.out.now;obtain ⟨Xh, hXh⟩ := zc (w1.alloc (.cells #[.slice (some ⟨qb, 0, none⟩) n r] 63));obtain ⟨bx, b0, hsz⟩ := z6 hXh;rw [hXh];have lh := F.out.hiw;replace F := zd F b0;replace BX := ze BX b0;replace HO := za (HO.out.below b0);have O := za bx.1;obtain ⟨h, hh⟩ := zc (w1.heap.size)
 rw [hh] at F lh O hql
 try simp only [hh]
 clear bx b0 hsz hh hXh;refine (zw 8 (MT.out _ F.out.out.1.1.1.2 F.out.out.1.1.2 F.out.out.1.2 F.out.out.2)).mono ?_;rintro e w2 ⟨rfl, hb⟩;replace F := zd F hb;replace BX := ze BX hb;replace HO := za (HO.out.below hb);replace O := za (O.out.below hb);clear hb;gi_wp2_with fail;refine (zw 8 (AL.out _)).mono ?_;rintro e w3 ⟨rfl, rfl⟩;have hoi := O.out.lt;have hqi := (World.ownsRow.lt HO.out qb rfl).2
 replace F := za F.out.now;obtain ⟨Xhi, hXhi⟩ := zc (w2.alloc (.cells #[.int .i64 (n : Int), .int .i64 (n : Int), .slice B1 k1 d1] 65));obtain ⟨bx, b0, hsz⟩ := z6 hXhi;rw [hXhi];have lhi := F.out.hiw;replace F := zd F b0;replace BX := ze BX b0;replace HO := za (HO.out.below b0);replace O := za (O.out.below b0);have I := za bx.1;obtain ⟨hi, hhi⟩ := zc (w2.heap.size);rw [hhi] at F lhi I hoi hqi
 try simp only [hhi]
 clear bx b0 hsz hhi hXhi
 try simp only [hhi]
 obtain ⟨V0, hV0⟩ := zc (Xhi);rw [hV0] at F BX HO O I ⊢;clear hV0;have hol := O.out.lt;have hil := I.out.lt;obtain ⟨S, hSd⟩ : ∃ S : Nat → Prop, S = fun k => k < V0.heap.size ∧ k ≠ h ∧ k ≠ qb := ⟨_, rfl⟩
 have hS : ∀ k, S k → k < V0.heap.size := fun k h => by rw [hSd] at h; exact h.1
 have hSo : ¬ S h := fun h => by rw [hSd] at h; exact h.2.1 rfl
 have hSq : ¬ S qb := fun h => by rw [hSd] at h; exact h.2.2 rfl
 have hSi : ∀ k, k < V0.heap.size → k ≠ h → k ≠ qb → S k := fun k h1 h2 h3 => by rw [hSd]; exact ⟨h1, h2, h3⟩
 clear hSd;have hiw := F.out.hiw;have hqg := (World.ownsRow.lt HO.out qb rfl).1;have hSw : ∀ k, k < w.heap.size → S k := fun k hk => hSi k (by omega) (by omega) (by omega);have hBw : Below w.heap.size w V0 := by rw [hg]; exact F.out.out.1.1.1.1
 gi_wp2_with fail
 refine jS rfl (by decide) (gf := 124) (lb := #[.pointer (some ⟨hi, 0, none⟩)]) rfl trivial yw
  (y9 6 S hi n n B1 k1 d1 s hs V0 (hSi _ (by omega) (by omega) (by omega)) I.out (fun W' q => q.nums H3.out hBw hSw)) (fun s W0 args s' W1 h => (V3.size _ _ _ _ _ h).trans rfl)
  (fun i W => ∃ v, zfG S V0 (g + 1) h (yg n y s i) v W) (fun _ _ ⟨_, k⟩ => k.kb) (fun _ _ _ _ ⟨v, k⟩ hgr hr => ⟨v, k.grown hS hgr hr⟩) (fun _ _ _ ⟨v, k⟩ hb => ⟨v, k.below hS hb⟩)
  ⟨.slice (some ⟨qb, 0, none⟩) n r, O.out, by simpa [yg] using HO.out, KB.refl S V0, fun k e => by cases e; exact hSq⟩ ?round ?done
 case round =>
  rintro lp i i' args V1 V2 hlp ⟨v, hv⟩ ⟨rl, hrl⟩ hb ⟨hir, rfl, row, rfl, hrow⟩;have H1 := za (hv.below hS hb);have HR := za hrow;obtain ⟨ra, rn, rc, rfl⟩ := zS hrow;clear hv hrow hrl hb;gi_wp2_with fail;refine ⟨KeepsFrom.refl _ _, fun W2 hgr ho _ => ?_⟩;have H := za (H1.out.grown hS hgr (fun r e => by cases e; exact ⟨hlp, ho⟩));have HR2 := za (j7 HR.out hgr (fun r e => by cases e; exact ho)).nums
  have hrn : n = rn := by have := zL HR.out; rw [qj hs hir] at this; exact this.symm
  obtain ⟨rb, rfl⟩ : ∃ rb, ra = some ⟨rb, 0, none⟩ := by
   obtain ⟨rb, cap, e, _⟩ := qk HR.out (by rw [qj hs hir]; omega);injection e with e1 e2 e3;exact ⟨rb, e1⟩
  have NT := za (HR2.out.take (i + 1) (by omega));have hrc : rn ≤ rc := HR2.out.2.1;have o0 := H.out.box.cell 0;have hgo : some h ≠ v.ownBlock := fun e => zbn H.out.own H.out.box e.symm;have hsW := H.out.kb.size
  have hll : (yg n y s i).length ≤ 600 := by
   have h1 := Jv (x := y) hs (show i ≤ n by omega);have h2 : i * n ≤ 4 * 4 := Nat.mul_le_mul (by omega) hn;have h3 := H2.out.1;omega
  have hrowS := H.out.row;clear hgr ho H1;gi_wp2_with fail;refine jV (by kernel_rfl) (by kernel_rfl) (by rintro ⟨a, w, h⟩; exact h) (jH v.ownBlock.toList [0, 1, 2, 3, 4] [5, 6] (.cons rfl (.cons rfl (.cons rfl (.cons rfl (.cons rfl .nil))))) (.cons rfl (.cons rfl .nil)) (by kernel_rfl) (fun c a d v w h => h) ?_);have ko0 := fun x => But.cell o0 (zO hgo) x
  repeat (go_big_quiet_step (fail))
  refine wpQuiet_nil ?_;clear ko0;refine zp rfl (fun K hK => ?_);refine jE (.tmp 19) (.tmp 23) rfl (g + 1) v (yg n y s i) _ (some ⟨rb, 0, none⟩) (i + 1) rc rfl H.out.own.drew rfl (by omega) NT.out.drew (by omega) (by show g + 1 ≤ W2.heap.size; omega) ?_;exact Xal
 case done =>
  exact Xav
end
end Go.Proofs.YtcoiklclbljjeaaGreatDoor.L
