/- Lemmas of the card's proof. -/
import Derived.Test.YtcoiklclbljjeaaGreatDoorM34
set_option linter.unusedVariables false
set_option linter.unusedSimpArgs false
set_option maxRecDepth 100000
set_option maxHeartbeats 16000000
namespace Go.Proofs.YtcoiklclbljjeaaGreatDoor.L
open Go.RowKit
section
structure PR where
 n:Nat
 x:List Num
 p:List Num
 y:List Num
 s:List Num
 a:Num
 b:Num
 c:Num
 d:Num
def PR.ok (r:PR):Prop:=r.n≤4∧zt r.n r.n r.p∧zt r.n r.n r.s
def qG (w:World) (B:Nat) (r:PR) (v:Value):Prop:=r.ok∧qB w B r.n r.x r.p r.y r.s r.a r.b r.c r.d v
def zbg (n:Nat) (l:List Int):PR:=⟨n,zjO n l,zld n l,zjO n l,zku n l,qe,qe,qe,qe⟩
def ziP (r:PR) (l:List Int):PR :=
 let f:=zM (l.take (r.n*r.n))
 let g:=zM (l.drop (r.n*r.n))
 ⟨r.n,zhV r.n r.x f,zhX r.n r.p f g,zdd r.n r.y f,zbR r.n r.s f g,qe,qe,qe,qe⟩
def zjd (r:PR) (l:List Int):PR :=
 let h:=zM (l.take r.n)
 let q:=jf (l.getD r.n 0)
 let z:=jf (l.getD (r.n+1) 0)
 ⟨r.n,YF r.n r.x r.p h q z,zb8 r.n r.p h q,Qj r.n r.y r.s h q z,ZG r.n r.s h q,zb9 r.x h z,zff r.n r.p h q,YS r.y h z,(yz r.n r.s h q).a⟩
def yA (k:Int) (r:PR) (l:List Int):PR:=if k=2 then ziP r l else zjd r l
def Z6 (r:PR):Bool:=zbm r.n r.x r.p r.y r.s r.a r.b r.c r.d
def zjq (r:PR):Int:=Jl zcY ((Zl r.x r.p).zip (Zk r.n r.y r.s))
theorem qB.below {w w':World} {B n:Nat} {x p y s:List Num} {a b c d:Num} {v:Value} (h:qB w B n x p y s a b c d v) (hb:Below w.heap.size w w'):qB w' B n x p y s a b c d v:=by
 obtain ⟨A0,c0,A1,m1,c1,B0,d0,B1,k1,d1,e,n0,n1,n2,n3,f0,f1,f2,f3⟩:=h;exact ⟨A0,c0,A1,m1,c1,B0,d0,B1,k1,d1,e,n0.below hb,n1.below hb,n2.below hb,n3.below hb,f0,f1,f2,f3⟩
theorem qB.only {w w':World} {B g n:Nat} {x p y s:List Num} {a b c d:Num} {v:Value} (h:qB w B n x p y s a b c d v) (ho:z7 g w w') (hg:g<B):qB w' B n x p y s a b c d v:=by
 obtain ⟨A0,c0,A1,m1,c1,B0,d0,B1,k1,d1,e,n0,n1,n2,n3,f0,f1,f2,f3⟩:=h;exact ⟨A0,c0,A1,m1,c1,B0,d0,B1,k1,d1,e,ho.nums n0 (fun b o e _=>by have:=f0 b o e;omega),ho.nums n1 (fun b o e _=>by have:=f1 b o e;omega),ho.nums n2 (fun b o e _=>by have:=f2 b o e;omega),ho.nums n3 (fun b o e _=>by have:=f3 b o e;omega),f0,f1,f2,f3⟩
theorem qB.base {w:World} {B B' n:Nat} {x p y s:List Num} {a b c d:Num} {v:Value} (h:qB w B n x p y s a b c d v) (hB:B'≤B):qB w B' n x p y s a b c d v:=by
 obtain ⟨A0,c0,A1,m1,c1,B0,d0,B1,k1,d1,e,n0,n1,n2,n3,f0,f1,f2,f3⟩:=h;exact ⟨A0,c0,A1,m1,c1,B0,d0,B1,k1,d1,e,n0,n1,n2,n3,fun q o e=>Nat.le_trans hB (f0 q o e),fun q o e=>Nat.le_trans hB (f1 q o e),fun q o e=>Nat.le_trans hB (f2 q o e),fun q o e=>Nat.le_trans hB (f3 q o e)⟩
section
variable {w w':World} {B B' g:Nat} {r:PR} {v:Value}
theorem qG.below (h:qG w B r v) (hb:Below w.heap.size w w'):qG w' B r v:=⟨h.1,h.2.below hb⟩
theorem qG.only (h:qG w B r v) (ho:z7 g w w') (hg:g<B):qG w' B r v:=⟨h.1,h.2.only ho hg⟩
theorem qG.base (h:qG w B r v) (hB:B'≤B):qG w B' r v:=⟨h.1,h.2.base hB⟩
theorem qG.agg (h:qG w B r v):∃pc:Array Value,v=.agg pc∧pc.size=24∧pc.toList.all Value.oneCell'=true:=by
 obtain ⟨_,A0,c0,A1,m1,c1,B0,d0,B1,k1,d1,e,_⟩:=h;exact ⟨_,e,rfl,rfl⟩
theorem qG.ruined (h:qG w B r v):Calls Tryz.prog 24 #[v] w fun e w'=>e=.returned (.bool (Z6 r))∧Below w.heap.size w w':=by
 obtain ⟨⟨h1,h2,h3⟩,A0,c0,A1,m1,c1,B0,d0,B1,k1,d1,rfl,n0,n1,n2,n3,_⟩:=h;exact zd8 _ h1 _ _ _ _ _ _ _ _ _ _ _ _ _ _ h2 h3 _ _ _ _ _ n0 n1 n2 n3
theorem qG.trips (h:qG w B r v):Calls Tryz.prog 108 #[v] w fun e w'=>e=.returned (.bool (decide (0<zjq r)))∧Below w.heap.size w w':=by
 obtain ⟨⟨h1,h2,h3⟩,A0,c0,A1,m1,c1,B0,d0,B1,k1,d1,rfl,n0,n1,n2,n3,_⟩:=h;exact zc2 _ h1 _ _ _ _ _ _ _ _ _ _ _ _ _ _ h2 h3 _ _ _ _ _ n0 n1 n2 n3
theorem qG.right (h:qG w B r v):Calls Tryz.prog 53 #[v] w fun e w'=>e=.returned (.bool true)∧Below w.heap.size w w':=by
 obtain ⟨⟨h1,h2,h3⟩,A0,c0,A1,m1,c1,B0,d0,B1,k1,d1,rfl,n0,n1,n2,n3,_⟩:=h;exact jr _ h1 _ _ _ _ _ _ _ _ _ _ _ _ h2 h3 n1.1 n3.1 _ _ _ _ _
theorem qG.state0 (h:qG w B r v):Calls Tryz.prog 22 #[v,.int .i64 0] w (jl r.x w):=by
 obtain ⟨⟨h1,h2,h3⟩,A0,c0,A1,m1,c1,B0,d0,B1,k1,d1,rfl,n0,n1,n2,n3,_⟩:=h;exact QY _ h1 _ _ _ _ _ _ _ _ _ _ _ _ _ _ h2 h3 _ _ _ _ _ n0 n1 n2 n3
theorem qG.cover0 (h:qG w B r v):Calls Tryz.prog 23 #[v,.int .i64 0] w fun e w'=>∃A m c,e=.returned (.slice A m c)∧zk w' A m c r.p∧Below w.heap.size w w':=by
 obtain ⟨⟨h1,h2,h3⟩,A0,c0,A1,m1,c1,B0,d0,B1,k1,d1,rfl,n0,n1,n2,n3,_⟩:=h;exact VC _ h1 _ _ _ _ _ _ _ _ _ _ _ _ _ _ h2 h3 _ _ _ _ _ n0 n1 n2 n3
end
section
variable {G:List Nat} {lo hi N B:Nat} {p:World→Prop} {w W W':World} {r:PR} {v:Value}
theorem Off.argGR {k:Nat} (h:Off G w.heap.size k W.heap.size p W) (b:Below w.heap.size w W) (a:qG w B r v) (hG:∀q,q∈G→q<B):Off G w.heap.size k W.heap.size (fun X=>p X∧qG X B r v) W :=
 h.plus fun X hX=>by
  obtain ⟨hk,A0,c0,A1,m1,c1,B0,d0,B1,k1,d1,e,n0,n1,n2,n3,f0,f1,f2,f3⟩:=a;have ng:∀q,B≤q→q∉G:=fun q hq hm=>by have:=hG q hm;omega
  exact ⟨hk,A0,c0,A1,m1,c1,B0,d0,B1,k1,d1,e,(n0.below b).off_ (fun q o e hn=>⟨.inl (n0.low q o e hn),ng q (f0 q o e)⟩) X hX,(n1.below b).off_ (fun q o e hn=>⟨.inl (n1.low q o e hn),ng q (f1 q o e)⟩) X hX,
   (n2.below b).off_ (fun q o e hn=>⟨.inl (n2.low q o e hn),ng q (f2 q o e)⟩) X hX,(n3.below b).off_ (fun q o e hn=>⟨.inl (n3.low q o e hn),ng q (f3 q o e)⟩) X hX,f0,f1,f2,f3⟩
theorem Off.argR {k:Nat} (h:Off [] w.heap.size k W.heap.size p W) (b:Below w.heap.size w W) (a:qG w B r v):Off [] w.heap.size k W.heap.size (fun X=>p X∧qG X B r v) W:=h.argGR b a (by simp)
theorem Off.argGI {k:Nat} (h:Off G w.heap.size k W.heap.size p W) (b:Below w.heap.size w W) {A:Option Addr} {n c:Nat} {xs:List Int} (a:zU w A n c xs) (hG:∀q o,A=some ⟨q,o,none⟩→q∉G):Off G w.heap.size k W.heap.size (fun X=>p X∧zU X A n c xs) W :=
 h.plus ((a.below b).off_ fun q o e hn=>⟨.inl (a.low q o e hn),hG q o e⟩)
end
end
section
attribute [local go_sem] Oper.semAt_some
structure zeA where
 h:Int
 q:Int
 X:List Int
 D:List Int
def jt (w:World) (B:Nat) (r:zeA) (v:Value):Prop:=∃v1 v2,v=.agg #[r.h,r.q,v1,v2]∧qH w B v1 r.X∧qH w B v2 r.D
def Zj (n:Nat) (l:List Int) (k:Nat):List Int:=(List.range k).map fun i=>l.getD (i*n+i) 0
def ZM (m:Int) (r:PR) (q:Int):zeA:=if m=1 then ⟨qS m (Z6 r),q,vr r.x,Zj r.n (vr r.p) r.n⟩ else ⟨qS m (Z6 r),q,[],[]⟩
theorem Off.fresh {W:World} {b:Nat} (h:b≤b+1) (hl:b<W.heap.size):Off [] b (b+1) W.heap.size (fun _=>True) W:=⟨h,hl,Nat.le_refl _,by simp,fun _ _=>trivial⟩
theorem Off.over {p:World→Prop} {lo hi N b:Nat} {W:World} (h:Off [] lo hi N p W) (hb:N≤b) (hN:N≤W.heap.size):∀X,Sim [] b (b+1) W.heap.size W X→p X:=fun X hX =>
 h.all X ⟨hX.os,hX.tape,hX.output,hX.size,fun k hk _ _=>hX.block k (by omega) (.inl (by omega)) (by simp)⟩
theorem Qu {w w':World} {B:Nat} {v:Value} {xs:List Int} (h:qH w B v xs) (hs:∀k,v.ownBlock=some k→w'.heap[k]?=w.heap[k]?):qH w' B v xs:=by
 exact XaM
theorem qH.off {W:World} {B lo hi:Nat} {v:Value} {xs:List Int} (h:qH W B v xs) (hB:hi≤B):∀X,Sim [] lo hi W.heap.size W X→qH X B v xs :=
 fun X hX=>Qu h (fun q e=>by have:=World.ownsRow.lt h q e;exact hX.block q this.2 (.inr (by omega)) (by simp))
theorem zfv (n:Nat) (l:List Int) (k:Nat):Zj n l (k+1)=Zj n l k++[l.getD (k*n+k) 0]:=by unfold Zj;rw [List.range_succ];simp
theorem zhm (w:World):(Instr.alloc 49 true (.tuple #[])).run Tryz.prog w=.ok (.pointer (some ⟨w.heap.size,0,none⟩)) (w.alloc (.cells #[.int .i64 0,.int .i64 0,.slice none 0 0,.slice none 0 0] 49)):=by kernel_rfl
theorem Vr (st:Int) (hw:zcI 3 st) (q:Int) (r:PR) (v:Value) (B:Nat) (w:World) (hr:qG w B r v) :
  Calls Tryz.prog 77 #[yG 3 0 0 st,v,.bool false,q] w fun e w'=>(∃u,e=.returned u∧jt w' w.heap.size (ZM 3 r q) u)∧Below w.heap.size w w':=by
 have hu:=Tryz.underlying61;have hu2:=Tryz.underlying49;obtain ⟨pc,rfl,hpc,_⟩:=hr.agg;have RU:=za (fun (W:World) (h:qG W B r (.agg pc))=>h.ruined);have RI:=za (fun (W:World) (h:qG W B r (.agg pc))=>h.right);have ST:=za (fun (W:World) (h:qG W B r (.agg pc))=>h.state0);have CO:=za (fun (W:World) (h:qG W B r (.agg pc))=>h.cover0);have WR:=za (fun W=>vq 3 st hw W)
 have WH:=za (fun ru W=>Yz 3 st ru (by decide) hw W);have VL:=za (fun (A:Option Addr) (n c:Nat) (l:List Num) (hn:n≤1000) (W:World) (h:zk W A n c l)=>Yy A n c l hn W h);have WL:=za (fun W=>vp 3 0 0 st W);rw [show Qs 3=false from rfl] at WL;have eM:ZM 3 r q=⟨qS 3 (Z6 r),q,[],[]⟩:=rfl;rw [eM];clear eM;have hk:=hr.1;have hxn:r.x.length=r.n:=by obtain ⟨_,A0,c0,A1,m1,c1,B0,d0,B1,k1,d1,e,n0,_⟩:=hr;exact n0.1
 have hn4:r.n≤4:=hk.1;have hn1:1≤r.n:=hk.2.1.r1;have hpn:r.p.length=r.n*r.n:=hk.2.1.len;have hn16:r.n*r.n≤4*4:=Nat.mul_le_mul hn4 hn4;have HR:=za hr;clear hr hw;obtain ⟨ru,hru⟩:∃b,Z6 r=b:=⟨_,rfl⟩
 rw [hru] at RU ⊢;clear hru;obtain ⟨n,rx,rp,ry,rs,ra,rb,rc,rd⟩:=r;obtain ⟨LX,hLX⟩:=zc (vr rx);obtain ⟨LD,hL⟩:=zc (vr rp);dsimp only at *;have lLX:LX.length=n:=by rw [←hLX];unfold vr;rw [List.length_map,hxn]
 have lL:LD.length=n*n:=by rw [←hL];unfold vr;rw [List.length_map,hpn]
 try rw [hLX,hL]
 clear hk;unfold yG at WR WH ⊢;go_enter Tryz.func77,Tryz.ntmps77;go_wp2_with (refine qX rfl 76 _ rfl _ rfl ?_;intro W9 hW9)
 subst hW9;obtain ⟨W0,hW0⟩:=zc ((((w.alloc (.cells #[.int .i64 3,.int .i64 0,.int .i64 0,st] 61)).alloc (.cells pc 76)).alloc (.cells #[.int .i64 0,.int .i64 0,.slice none 0 0,.slice none 0 0] 49)));obtain ⟨bx,b0,hsz⟩:=Jq hW0;rw [hW0];clear hW0;have F:=za ((Off.start b0 hsz).argR b0 (HR.out));have BX:=za bx;clear bx b0 hsz;obtain ⟨g,hg⟩:=zc (w.heap.size);rw [hg] at F BX
 try simp only [hg]
 try simp only [World.size_alloc,hg]
 have x0:=(BX.out.1).cell 0;have x1:=(BX.out.1).cell 1;have x2:=(BX.out.1).cell 2;have x3:=(BX.out.1).cell 3;replace F:=za F.out.now;have hstart:=F.out.hiw;refine zG [] (.rd (i:=0) rfl (.rd (i:=1) rfl (.rd (i:=2) rfl (.rd (i:=5) rfl (.tl (i:=3) rfl (.tl (i:=4) rfl (.rd (i:=6) rfl (.fl (i:=7) (st:=none) rfl rfl zhm (.tl (i:=8) rfl .nil))))))))) (by kernel_rfl) (by kernel_rfl) (fun c a d v w h=>by cases d<;>exact h) (fun c a d v w h=>by cases d<;>exact h) (by simp) ?_
 have bp:=BX.out.2.1;have kx0:=fun x=>But.cell (G:=[]) x0 (by simp) x;have kx1:=fun x=>But.cell (G:=[]) x1 (by simp) x;have kx2:=fun x=>But.cell (G:=[]) x2 (by simp) x;have kx3:=fun x=>But.cell (G:=[]) x3 (by simp) x;iterate 2 (refine zf ?_;go_big_quiet_step (fail);refine wpQuiet_nil ?_)
 clear kx0 kx1 kx2 kx3;refine zf ?_;refine qP 76 _ rfl _ _ _ rfl rfl (fun w' hw'=>by obtain ⟨xx,rfl⟩:=hw';exact (bp.but (by simp) xx).load76 hpc) (wpQuiet_nil ?_);go_simp;refine zf ?_;go_big_quiet_step (fail);refine wpQuiet_nil ?_;clear bp x0 x1 x2 x3;refine zm rfl (fun w1 hb K hK=>?_);replace hb:=qi hb;go_simp;replace F:=zd F hb;replace BX:=ze BX hb;clear hb;refine (RU.out _ F.out.out.2).mono ?_
 rintro e w2 ⟨rfl,hb⟩;refine hK _ _ ((zC.refl _ _).call hb) ?_;clear hK K;replace F:=zd F hb;replace BX:=ze BX hb;clear hb;refine zm rfl (fun w3 hb K hK=>?_);go_simp;replace F:=zd F hb;replace BX:=ze BX hb;clear hb;refine (WH.out _ _).mono ?_;rintro e w4 ⟨rfl,hb⟩;refine hK _ _ ((zC.refl _ _).call hb) ?_;clear hK K;replace F:=zd F hb;replace BX:=ze BX hb;clear hb;refine zf ?_;go_big_quiet_step (fail)
 refine wpQuiet_nil ?_;refine zT (fun w5 b9 hb hat lb9 nb9=>?_)
 try simp at nb9
 replace F:=zd F hb;replace BX:=ze BX hb;have R9:=za hat;clear hat hb;refine zJ rfl (fun w6 hb K hK=>?_);replace F:=zd F hb;replace BX:=ze BX hb;replace R9:=za (R9.out.below hb);clear hb;have rr0:=(R9.out).cell 0;have zrr0:=(R9.out).frozen 0;have rr1:=(R9.out).cell 1;have zrr1:=(R9.out).frozen 1;have rr2:=(R9.out).cell 2;have zrr2:=(R9.out).frozen 2;have rr3:=(R9.out).cell 3
 have zrr3:=(R9.out).frozen 3;go_simp;refine hK _ _ ?_;clear hK K rr0 zrr0 rr1 zrr1 rr2 zrr2 rr3 zrr3;replace F:=za (F.out.set4 (g:=b9) (.inr (by omega)) (.int .i64 (qS 3 ru)) q (.slice none 0 0) (.slice none 0 0));replace BX:=za (BX.out.far4 (show g+3≤b9 by omega) (.int .i64 (qS 3 ru)) q (.slice none 0 0) (.slice none 0 0));replace R9:=za (R9.out.set4 (.int .i64 (qS 3 ru)) q (.slice none 0 0) (.slice none 0 0))
 obtain ⟨w7,hw7⟩:=zc (((((w6.setCell ⟨b9,0,none⟩ (.int .i64 (qS 3 ru))).setCell ⟨b9,1,none⟩ q).setCell ⟨b9,2,none⟩ (.slice none 0 0)).setCell ⟨b9,3,none⟩ (.slice none 0 0)));rw [hw7] at F BX R9 ⊢;clear hw7;replace F:=za (F.out.plus (R9.out.off (.inr (by omega))));clear R9;have x0:=(BX.out.1).cell 0;have x1:=(BX.out.1).cell 1;have x2:=(BX.out.1).cell 2;have x3:=(BX.out.1).cell 3
 go_wp2_with fail;refine (WR.out _).mono ?_;rintro e w8 ⟨rfl,hb⟩;replace F:=zd F hb;replace BX:=ze BX hb;clear hb x0 x1 x2 x3;have x0:=(BX.out.1).cell 0;have x1:=(BX.out.1).cell 1;have x2:=(BX.out.1).cell 2;have x3:=(BX.out.1).cell 3;go_wp2_with fail;refine (WL.out _).mono ?_;rintro e w9 ⟨rfl,hb⟩;replace F:=zd F hb;replace BX:=ze BX hb;clear hb x0 x1 x2 x3;have x0:=(F.out.out.2).cell 0
 have x1:=(F.out.out.2).cell 1;have x2:=(F.out.out.2).cell 2;have x3:=(F.out.out.2).cell 3;have y0:=(BX.out.2.2.1).cell 0;have zy0:=(BX.out.2.2.1).frozen 0;have y1:=(BX.out.2.2.1).cell 1;have zy1:=(BX.out.2.2.1).frozen 1;have y2:=(BX.out.2.2.1).cell 2;have zy2:=(BX.out.2.2.1).frozen 2;have y3:=(BX.out.2.2.1).cell 3;have zy3:=(BX.out.2.2.1).frozen 3;go_wp2_with fail;replace F:=za (F.out.set4 (g:=g+1+1) (.inl (by omega)) (.int .i64 (qS 3 ru)) q (.slice none 0 0) (.slice none 0 0))
 replace BX:Hid (zP ((((w9.setCell ⟨g+1+1,0,none⟩ (.int .i64 (qS 3 ru))).setCell ⟨g+1+1,1,none⟩ q).setCell ⟨g+1+1,2,none⟩ (.slice none 0 0)).setCell ⟨g+1+1,3,none⟩ (.slice none 0 0)) g [(61,#[.int .i64 3,.int .i64 0,.int .i64 0,st]),(76,pc),(49,#[.int .i64 (qS 3 ru),q,.slice none 0 0,.slice none 0 0])]):=za (BX.out.put4 2 rfl (.int .i64 (qS 3 ru)) q (.slice none 0 0) (.slice none 0 0))
 obtain ⟨w10,hw10⟩:=zc (((((w9.setCell ⟨g+1+1,0,none⟩ (.int .i64 (qS 3 ru))).setCell ⟨g+1+1,1,none⟩ q).setCell ⟨g+1+1,2,none⟩ (.slice none 0 0)).setCell ⟨g+1+1,3,none⟩ (.slice none 0 0)));rw [hw10] at F BX  ⊢;clear hw10;have rq0_0:=(BX.out.2.2.1).cell 0;have rq0_1:=(BX.out.2.2.1).cell 1;have rq0_2:=(BX.out.2.2.1).cell 2;have rq0_3:=(BX.out.2.2.1).cell 3;exact bodyPost_ret (v:=(.agg #[.int .i64 (qS 3 ru),q,.slice none 0 0,.slice none 0 0])) (by simp [results,Tryz.results77,go_sem,rq0_0,rq0_1,rq0_2,rq0_3]) rfl ⟨⟨_,rfl,_,_,rfl,qH.nil_ _ _,qH.nil_ _ _⟩,by first | (rw [hg];exact F.out.out.1.1)|exact F.out.out.1.1⟩
theorem Vs (st:Int) (hw:zcI 1 st) (q:Int) (r:PR) (v:Value) (B:Nat) (w:World) (hr:qG w B r v) :
  Calls Tryz.prog 77 #[yG 1 0 0 st,v,.bool false,q] w fun e w'=>(∃u,e=.returned u∧jt w' w.heap.size (ZM 1 r q) u)∧Below w.heap.size w w':=by
 have hu:=Tryz.underlying61;have hu2:=Tryz.underlying49;obtain ⟨pc,rfl,hpc,_⟩:=hr.agg;have RU:=za (fun (W:World) (h:qG W B r (.agg pc))=>h.ruined);have RI:=za (fun (W:World) (h:qG W B r (.agg pc))=>h.right);have ST:=za (fun (W:World) (h:qG W B r (.agg pc))=>h.state0);have CO:=za (fun (W:World) (h:qG W B r (.agg pc))=>h.cover0);have WR:=za (fun W=>vq 1 st hw W)
 have WH:=za (fun ru W=>Yz 1 st ru (by decide) hw W);have VL:=za (fun (A:Option Addr) (n c:Nat) (l:List Num) (hn:n≤1000) (W:World) (h:zk W A n c l)=>Yy A n c l hn W h);have WL:=za (fun W=>vp 1 0 0 st W);rw [show Qs 1=true from rfl] at WL;have eM:ZM 1 r q=⟨qS 1 (Z6 r),q,vr r.x,Zj r.n (vr r.p) r.n⟩:=rfl;rw [eM];clear eM;have hk:=hr.1;have hxn:r.x.length=r.n:=by obtain ⟨_,A0,c0,A1,m1,c1,B0,d0,B1,k1,d1,e,n0,_⟩:=hr;exact n0.1
 have hn4:r.n≤4:=hk.1;have hn1:1≤r.n:=hk.2.1.r1;have hpn:r.p.length=r.n*r.n:=hk.2.1.len;have hn16:r.n*r.n≤4*4:=Nat.mul_le_mul hn4 hn4;have HR:=za hr;clear hr hw;obtain ⟨ru,hru⟩:∃b,Z6 r=b:=⟨_,rfl⟩
 rw [hru] at RU ⊢;clear hru;obtain ⟨n,rx,rp,ry,rs,ra,rb,rc,rd⟩:=r;obtain ⟨LX,hLX⟩:=zc (vr rx);obtain ⟨LD,hL⟩:=zc (vr rp);dsimp only at *;have lLX:LX.length=n:=by rw [←hLX];unfold vr;rw [List.length_map,hxn]
 have lL:LD.length=n*n:=by rw [←hL];unfold vr;rw [List.length_map,hpn]
 try rw [hLX,hL]
 clear hk;unfold yG at WR WH ⊢;go_enter Tryz.func77,Tryz.ntmps77;go_wp2_with (refine qX rfl 76 _ rfl _ rfl ?_;intro W9 hW9)
 subst hW9;obtain ⟨W0,hW0⟩:=zc ((((w.alloc (.cells #[.int .i64 1,.int .i64 0,.int .i64 0,st] 61)).alloc (.cells pc 76)).alloc (.cells #[.int .i64 0,.int .i64 0,.slice none 0 0,.slice none 0 0] 49)));obtain ⟨bx,b0,hsz⟩:=Jq hW0;rw [hW0];clear hW0;have F:=za ((Off.start b0 hsz).argR b0 (HR.out));have BX:=za bx;clear bx b0 hsz;obtain ⟨g,hg⟩:=zc (w.heap.size);rw [hg] at F BX
 try simp only [hg]
 try simp only [World.size_alloc,hg]
 have x0:=(BX.out.1).cell 0;have x1:=(BX.out.1).cell 1;have x2:=(BX.out.1).cell 2;have x3:=(BX.out.1).cell 3;replace F:=za F.out.now;have hstart:=F.out.hiw;refine zG [] (.rd (i:=0) rfl (.rd (i:=1) rfl (.rd (i:=2) rfl (.rd (i:=5) rfl (.tl (i:=3) rfl (.tl (i:=4) rfl (.rd (i:=6) rfl (.fl (i:=7) (st:=none) rfl rfl zhm (.tl (i:=8) rfl .nil))))))))) (by kernel_rfl) (by kernel_rfl) (fun c a d v w h=>by cases d<;>exact h) (fun c a d v w h=>by cases d<;>exact h) (by simp) ?_
 have bp:=BX.out.2.1;have kx0:=fun x=>But.cell (G:=[]) x0 (by simp) x;have kx1:=fun x=>But.cell (G:=[]) x1 (by simp) x;have kx2:=fun x=>But.cell (G:=[]) x2 (by simp) x;have kx3:=fun x=>But.cell (G:=[]) x3 (by simp) x;iterate 2 (refine zf ?_;go_big_quiet_step (fail);refine wpQuiet_nil ?_)
 clear kx0 kx1 kx2 kx3;refine zf ?_;refine qP 76 _ rfl _ _ _ rfl rfl (fun w' hw'=>by obtain ⟨xx,rfl⟩:=hw';exact (bp.but (by simp) xx).load76 hpc) (wpQuiet_nil ?_);go_simp;refine zf ?_;go_big_quiet_step (fail);refine wpQuiet_nil ?_;clear bp x0 x1 x2 x3;refine zm rfl (fun w1 hb K hK=>?_);replace hb:=qi hb;go_simp;replace F:=zd F hb;replace BX:=ze BX hb;clear hb;refine (RU.out _ F.out.out.2).mono ?_
 rintro e w2 ⟨rfl,hb⟩;refine hK _ _ ((zC.refl _ _).call hb) ?_;clear hK K;replace F:=zd F hb;replace BX:=ze BX hb;clear hb;refine zm rfl (fun w3 hb K hK=>?_);go_simp;replace F:=zd F hb;replace BX:=ze BX hb;clear hb;refine (WH.out _ _).mono ?_;rintro e w4 ⟨rfl,hb⟩;refine hK _ _ ((zC.refl _ _).call hb) ?_;clear hK K;replace F:=zd F hb;replace BX:=ze BX hb;clear hb;refine zf ?_;go_big_quiet_step (fail)
 refine wpQuiet_nil ?_;refine zT (fun w5 b9 hb hat lb9 nb9=>?_)
 try simp at nb9
 replace F:=zd F hb;replace BX:=ze BX hb;have R9:=za hat;clear hat hb;refine zJ rfl (fun w6 hb K hK=>?_);replace F:=zd F hb;replace BX:=ze BX hb;replace R9:=za (R9.out.below hb);clear hb;have rr0:=(R9.out).cell 0;have zrr0:=(R9.out).frozen 0;have rr1:=(R9.out).cell 1;have zrr1:=(R9.out).frozen 1;have rr2:=(R9.out).cell 2;have zrr2:=(R9.out).frozen 2;have rr3:=(R9.out).cell 3
 have zrr3:=(R9.out).frozen 3;go_simp;refine hK _ _ ?_;clear hK K rr0 zrr0 rr1 zrr1 rr2 zrr2 rr3 zrr3;replace F:=za (F.out.set4 (g:=b9) (.inr (by omega)) (.int .i64 (qS 1 ru)) q (.slice none 0 0) (.slice none 0 0));replace BX:=za (BX.out.far4 (show g+3≤b9 by omega) (.int .i64 (qS 1 ru)) q (.slice none 0 0) (.slice none 0 0));replace R9:=za (R9.out.set4 (.int .i64 (qS 1 ru)) q (.slice none 0 0) (.slice none 0 0))
 obtain ⟨w7,hw7⟩:=zc (((((w6.setCell ⟨b9,0,none⟩ (.int .i64 (qS 1 ru))).setCell ⟨b9,1,none⟩ q).setCell ⟨b9,2,none⟩ (.slice none 0 0)).setCell ⟨b9,3,none⟩ (.slice none 0 0)));rw [hw7] at F BX R9 ⊢;clear hw7;have F0:=F;replace F:=za (F.out.plus (R9.out.off (.inr (by omega))));clear R9;have x0:=(BX.out.1).cell 0;have x1:=(BX.out.1).cell 1;have x2:=(BX.out.1).cell 2;have x3:=(BX.out.1).cell 3
 go_wp2_with fail;refine (WR.out _).mono ?_;rintro e w8 ⟨rfl,hb⟩;replace F:=zd F hb;replace F0:=za (F0.out.call hb);replace BX:=ze BX hb;clear hb x0 x1 x2 x3;have x0:=(BX.out.1).cell 0;have x1:=(BX.out.1).cell 1;have x2:=(BX.out.1).cell 2;have x3:=(BX.out.1).cell 3;go_wp2_with fail;refine (WL.out _).mono ?_;rintro e w9 ⟨rfl,hb⟩;replace F:=zd F hb;replace F0:=za (F0.out.call hb)
 replace BX:=ze BX hb;clear hb x0 x1 x2 x3;go_wp2_with (refine QL rfl 76 _ rfl _ _ _ rfl ((BX.out.2.1).load76 hpc) ?_)
 refine (RI.out _ F.out.out.1.2).mono ?_;rintro e w10 ⟨rfl,hb⟩;replace F:=zd F hb;replace F0:=za (F0.out.call hb);replace BX:=ze BX hb;clear hb;have x1:=(BX.out.1).cell 1;go_wp2_with (refine qg rfl 76 _ rfl _ _ _ rfl ((BX.out.2.1).load76 hpc) ?_)
 clear x1;refine (ST.out _ F.out.out.1.2).mono ?_;rintro e w11 ⟨A0,n0,c0,rfl,ho,hb⟩;have hn0:=zL ho;replace F:=za (F.out.gotO hb ho );replace F0:=za (F0.out.call hb);replace BX:=ze BX hb;clear hb;obtain rfl:n=n0:=by omega
 clear hn0 ho;go_wp2_with fail;refine (VL.out A0 _ c0 _ (by omega) _ F.out.out.2).mono ?_;rintro e w12 ⟨vX,rfl,hv,hb⟩;have hb9:=(F.out.out.1.2).lt;rw [hLX] at hv;obtain ⟨AX,cX,rfl⟩:=vu hv;rw [lLX] at hv ⊢;replace F:=zd F hb;replace F0:=za (F0.out.call hb);replace BX:=ze BX hb;have VX:=za hv;clear hb hv;have BX2:=za (show zP w12 b9 [(49,#[.int .i64 (qS 1 ru),q,.slice none 0 0,.slice none 0 0])] from ⟨F.out.out.1.2,trivial⟩)
 have F2:=za (((((((Off.fresh (W:=w12) (show b9≤b9+1 by omega) (F.out.out.1.2).lt).plus (fun X hX=>(F0.out.over (by omega) F0.out.top X hX).1)).plus (fun X hX=>(F0.out.over (by omega) F0.out.top X hX).2)).plus ((BX.out.1).off (.inl (by omega)))).plus ((BX.out.2.1).off (.inl (by omega)))).plus ((BX.out.2.2.1).off (.inl (by omega)))).plus (VX.out.off (by omega)));clear F BX;have F:=F2;have BX:=BX2
 clear F2 BX2;clear VX;have y2:=(BX.out.1).cell 2;have zy2:=(BX.out.1).frozen 2;replace F:=za (F.out.set (g:=b9) (.inl (by omega)) 2 (.slice AX n cX));replace BX:Hid (zP (w12.setCell ⟨b9,2,none⟩ (.slice AX n cX)) b9 [(49,#[.int .i64 (qS 1 ru),q,.slice AX n cX,.slice none 0 0])]):=za (BX.out.set 0 2 (.slice AX n cX));have x1:=(F.out.out.1.1.1.2).cell 1;go_wp2_with (refine qg rfl 76 _ rfl _ _ _ rfl ((F.out.out.1.1.2).load76 hpc) ?_)
 clear y2 zy2 x1;refine (CO.out _ F.out.out.1.1.1.1.2).mono ?_;rintro e w14 ⟨A1,n1,c1,rfl,hn,hb⟩;have hn1:=hn.1;replace F:=zd F hb;replace BX:=ze BX hb;have NP:=za hn;clear hb;obtain rfl:n1=n*n:=by omega
 clear hn hn1;go_wp2_with fail;refine (VL.out A1 _ c1 _ (by omega) _ NP.out).mono ?_;rintro e w15 ⟨vP,rfl,hv,hb⟩;have hb14:=F.out.hiw;rw [hL] at hv;obtain ⟨AP,cP,rfl⟩:=vu hv;rw [lL] at hv ⊢;replace F:=zd F hb;replace BX:=ze BX hb;replace NP:=za (NP.out.below hb);have VP:=za hv;clear hb hv;clear NP;have hAP:∀q o,AP=some ⟨q,o,none⟩→q<w15.heap.size:=fun q o e=>VP.out.ints.low q o e (Nat.mul_pos hn1 hn1)
 replace F:=za (F.out.plus (VP.out.off (by omega)));clear VP;have y2:=(BX.out.1).cell 2;go_wp2_with fail;clear y2;clear hpn hxn hLX hL;obtain ⟨nn,hnn⟩:=zc (n*n);rw [hnn] at F lL hn16
 try simp only [hnn]
 obtain ⟨N,hN⟩:=zc (w15.heap.size);have hbN:b9<N:=by have:=F.out.hiw;omega
 rw [hN] at hAP
 have FL:Hid (Off [] b9 (b9+1) N (fun X=>Below g w X∧At X (g+1+1) 49 #[.int .i64 0,.int .i64 0,.slice none 0 0,.slice none 0 0]∧qH X w11.heap.size (.slice AX n cX) LX∧qH X w14.heap.size (.slice AP nn cP) LD) w15):=by
  rw [←hN];exact za (F.out.now.mono fun X h=>⟨h.1.1.1.1.1.1.2,h.1.1.2,h.1.2,h.2⟩)
 have RB:=za (BX.out.1);clear F BX
 go_loopw [11,47] (fun _ i wr=>∃(k:Nat) (vD:Value),k≤n∧i=.int .i64 k∧Hid (At wr b9 49 #[.int .i64 (qS 1 ru),q,.slice AX n cX,vD])∧Hid (qH wr N vD (Zj n LD k))∧Hid (Off [] b9 (b9+1) N (fun X=>Below g w X∧At X (g+1+1) 49 #[.int .i64 0,.int .i64 0,.slice none 0 0,.slice none 0 0]∧qH X w11.heap.size (.slice AX n cX) LX∧qH X w14.heap.size (.slice AP nn cP) LD) wr)) (fun _ i _=>n-(intOf i).toNat)
 case atStart=>exact ⟨0,.slice none 0 0,by omega,rfl,RB,za (qH.nil_ _ _),FL⟩
 case round =>
  obtain ⟨k,vD,hk,rfl,RK,DK,FK⟩:=hrel
  by_cases hlt:k<n
  ·obtain ⟨kn,hkn⟩:=zc (k*n)
   have hkni:(k:Int)*(n:Int)=(kn:Int):=by rw [←hkn];simp
   have hkk:kn+k<nn:=by
    have:(k+1)*n≤n*n:=Nat.mul_le_mul_right n hlt;rw [Nat.add_mul] at this;omega
   obtain ⟨b,o,u,rfl,hxk,hc⟩:=FK.out.out.2.2.2.ints.at_ (k:=kn+k) hkk;have y2:=RK.out.cell 2;have y3:=RK.out.cell 3;have HT:=za (show Zj n LD k++[u]=Zj n LD (k+1) by rw [zfv,hkn,List.getD_eq_getElem?_getD,hxk];rfl);have HL:=za (show (Zj n LD k).length≤1000 by unfold Zj;rw [List.length_map,List.length_range];omega);obtain ⟨LK,hLK⟩:=zc (Zj n LD k);rw [hLK] at DK HL HT
   clear hLK hxk;go_wp2_with fail;have hbo:some b9≠vD.ownBlock:=fun e=>by have:=(World.ownsRow.lt DK.out b9 e.symm).1;omega
   have hbb:some b≠vD.ownBlock:=fun e=>by have:=(World.ownsRow.lt DK.out b e.symm).1;have:=hAP b o rfl;omega
   refine je vD.ownBlock.toList [0,1,2,3,4,5,6,7,8,9,10,11] [12,13,14,15] (.cons rfl (.cons rfl (.cons rfl (.cons rfl (.cons rfl (.cons rfl (.cons rfl (.cons rfl (.cons rfl (.cons rfl (.cons rfl (.cons rfl .nil)))))))))))) (.cons rfl (.cons rfl (.cons rfl (.cons rfl .nil)))) (by kernel_rfl) (by kernel_rfl) (fun c a d v w h=>by cases d<;>exact h) ?_;have k2:=fun x=>But.cell y2 (zO hbo) x
   have k3:=fun x=>But.cell y3 (zO hbo) x;have kc:=fun x=>But.cell hc (zO hbb) x
   repeat (go_big_quiet_step (fail))
   refine wpQuiet_nil ?_;clear k2 k3 kc y2 y3 hc;have RK1:=za (show At wr.drew b9 49 _ from RK.out);have DK1:=za (show qH wr.drew N vD LK from DK.out);have FK1:=za FK.out.drew;have hB:=za ((zC.refl wr vD.ownBlock.toList).drew);obtain ⟨V1,hV1⟩:=zc (wr.drew);rw [hV1] at RK1 DK1 FK1 hB ⊢;clear hV1 RK DK FK;have hN1:N≤V1.heap.size:=FK1.out.top;refine zp rfl (fun K hK=>?_);go_simp;refine hK _ _ (zI (hB.out.alloc _)) ?_
   clear hK K;refine zp rfl (fun K hK=>?_);refine zbC (.tmp 51) (.tmp 62) rfl N vD LK u _ rfl (DK1.out.alloc _) rfl (At.new' rfl) HL.out (by simp;omega) ?_;intro g1 cc1 w3 hown hgrow hat hg1;have HB:=za ((hB.out.alloc (.cells #[u] 3)).grown hgrow (fun q e=>.inl (qR q e)));refine hK _ _ (zI HB.out) ?_;clear hK K;have O3:=za hown;have R3:=za ((RK1.out.alloc _).grown hgrow (fun e=>by have:=(World.ownsRow.lt DK1.out b9 e.symm).1;omega))
   have F3:=za ((FK1.out.alloc _).grown hgrow (fun q e=>.inr (World.ownsRow.lt DK1.out q e).1));clear hown hgrow hat;have e3:=R3.out.cell 3;have z3:=R3.out.frozen 3;refine zp rfl (fun K hK=>?_);go_simp;refine hK _ _ (zI HB.out) ?_;clear hK K;refine zZ rfl (fun K hK=>?_);go_simp;refine hK _ _ ?_;clear hK K;go_wp2_with fail;rw [HT.out] at O3;go_roundw
   case rel=>exact ⟨k+1,.slice (some ⟨g1,0,none⟩) (LK.length+1) cc1,by omega,by go_num,za (R3.out.set 3 _ rfl),za (O3.out.kept (jv w3 b9 3 _) (.inr (by simp [Value.ownBlock];omega))),za (F3.out.set (.inl (by omega)) 3 _)⟩
   case measure=>simp [intOf];omega
  ·obtain rfl:k=n:=by omega
   obtain ⟨AD,cD,rfl⟩:=vu DK.out;have y0:=RK.out.cell 0;have y1:=RK.out.cell 1;have y2:=RK.out.cell 2;have y3:=RK.out.cell 3;have R8:=za FK.out.out.2.1;have e0:=R8.out.cell 0;have e1:=R8.out.cell 1;have e2:=R8.out.cell 2;have e3:=R8.out.cell 3;have z0:=R8.out.frozen 0;have z1:=R8.out.frozen 1;have z2:=R8.out.frozen 2;have z3:=R8.out.frozen 3;go_wp2_with fail;clear e0 e1 e2 e3 z0 z1 z2 z3 y0 y1 y2 y3
   obtain ⟨ln,hln⟩:=zc ((Zj k LD k).length);rw [hln];obtain ⟨d0,d1,d2,d3⟩:=(R8.out.set4 (.int .i64 (qS 1 ru)) q (.slice AX k cX) (.slice AD ln cD)).four;have OO:=z7.all4 (g+1+1) wr (.int .i64 (qS 1 ru)) q (.slice AX k cX) (.slice AD ln cD);have BB:=_root_.Go.Proofs.YtcoiklclbljjeaaGreatDoor.L.Below.only FK.out.out.1 OO (by omega);have XX:=Qu (Qv FK.out.out.2.2.1 (show g≤w11.heap.size by omega)) (fun z e=>OO.block z (by have:=(World.ownsRow.lt FK.out.out.2.2.1 z e).1;omega))
   have DK2:=DK.out;rw [hln] at DK2;have DD:=Qu (Qv DK2 (show g≤N by omega)) (fun z e=>OO.block z (by have:=(World.ownsRow.lt DK2 z e).1;omega));exact bodyPost_ret (v:=.agg #[.int .i64 (qS 1 ru),q,.slice AX k cX,.slice AD ln cD]) (by simp [results,Tryz.results77,go_sem,d0,d1,d2,d3]) rfl ⟨⟨_,rfl,_,_,rfl,by first | exact XX|(rw [hg];exact XX),by first | exact DD|(rw [hg];exact DD)⟩,by first | exact BB|(rw [hg];exact BB)⟩
end
section
attribute [local go_sem] Oper.semAt_some
def qU (on:Bool) (pn ps:Int) (pc:Array Value) (m st bd:Int):Array Value:=#[.bool on,.int .i64 pn,.int .i64 ps]++pc++#[.int .i64 m,.int .i64 0,.int .i64 0,.int .i64 st,.int .i64 bd]
section
variable {on:Bool} {pn ps:Int} {pc:Array Value} {m st bd:Int}
theorem yS (h:pc.size=24):(qU on pn ps pc m st bd).size=32:=by simp [qU,h]
theorem Zq (h:pc.size=24) (i:Nat) (hi:i<3):(qU on pn ps pc m st bd)[i]?=#[.bool on,.int .i64 pn,.int .i64 ps][i]?:=by
 unfold qU;rw [Array.append_assoc,Array.getElem?_append_left (by simpa using hi)]
theorem vH (h:pc.size=24) (i:Nat) (hi:i<24):(qU on pn ps pc m st bd)[3+i]?=pc[i]?:=by
 unfold qU;rw [Array.append_assoc,Array.getElem?_append_right (by simp),Array.getElem?_append_left (by simp;omega)];simp
theorem yT (h:pc.size=24) (i:Nat):(qU on pn ps pc m st bd)[27+i]?=#[.int .i64 m,.int .i64 0,.int .i64 0,.int .i64 st,.int .i64 bd][i]?:=by
 unfold qU;rw [Array.getElem?_append_right (by simp;omega)];simp [h]
end
section
variable {w:World} {E:Nat} {on:Bool} {pn ps:Int} {pc:Array Value} {m st bd:Int}
theorem zau (h:At w E 98 (qU on pn ps pc m st bd)) (hp:pc.size=24):w.cell? ⟨E,0,none⟩=some (.bool on)∧w.cell? ⟨E,1,none⟩=some (.int .i64 pn)∧w.cell? ⟨E,2,none⟩=some (.int .i64 ps) :=
 ⟨by rw [h.cell,Zq hp 0 (by decide)];rfl,by rw [h.cell,Zq hp 1 (by decide)];rfl,by rw [h.cell,Zq hp 2 (by decide)];rfl⟩
theorem Jc (h:At w E 98 (qU on pn ps pc m st bd)) (hp:pc.size=24):w.cell? ⟨E,27,none⟩=some (.int .i64 m)∧w.cell? ⟨E,28,none⟩=some (.int .i64 0)∧w.cell? ⟨E,29,none⟩=some (.int .i64 0)∧w.cell? ⟨E,30,none⟩=some (.int .i64 st)∧w.cell? ⟨E,31,none⟩=some (.int .i64 bd) :=
 ⟨by rw [h.cell];exact (yT hp 0),by rw [h.cell];exact (yT hp 1),by rw [h.cell];exact (yT hp 2),by rw [h.cell];exact (yT hp 3),by rw [h.cell];exact (yT hp 4)⟩
theorem ZQ (h:At w E 98 (qU on pn ps pc m st bd)) (hp:pc.size=24):(Instr.loadAt 76 (.pointer (some ⟨E,3,none⟩))).run Tryz.prog w=.ok (.agg pc) w :=
 zk4 hp fun j v hj=>by
  have hl:j<24:=by rw [←hp];exact (Array.getElem?_eq_some_iff.1 hj).1
  rw [h.cell,vH hp j hl];exact hj
theorem zgW (hp:pc.size=24) (b:Bool) (x y:Int):Jk (qU on pn ps pc m st bd) 0 [.bool b,.int .i64 x,.int .i64 y]=qU b x y pc m st bd:=by
 apply Array.ext';apply List.ext_getElem?;intro i;rw [Array.getElem?_toList,Array.getElem?_toList,Qw _ _ _ _ (by rw [yS hp];simp)]
 by_cases h:i<3
 ·rw [if_pos ⟨by omega,by simpa using h⟩,Zq hp i h]
  simp
 ·rw [if_neg (by simp;omega)]
  by_cases h2:i<27
  ·obtain ⟨j,rfl⟩:∃j,i=3+j:=⟨i-3,by omega⟩
   rw [vH hp j (by omega),vH hp j (by omega)]
  ·obtain ⟨j,rfl⟩:∃j,i=27+j:=⟨i-27,by omega⟩
   rw [yT hp j,yT hp j]
theorem zeV (hp:pc.size=24) (qc:Array Value) (hq:qc.size=24):Jk (qU on pn ps pc m st bd) 3 qc.toList=qU on pn ps qc m st bd:=by
 apply Array.ext';apply List.ext_getElem?;intro i;rw [Array.getElem?_toList,Array.getElem?_toList,Qw _ _ _ _ (by rw [yS hp];simp [hq])]
 by_cases h:i<3
 ·rw [if_neg (by omega),Zq hp i h,Zq hq i h]
 ·by_cases h2:i<27
  ·obtain ⟨j,rfl⟩:∃j,i=3+j:=⟨i-3,by omega⟩
   rw [if_pos ⟨by omega,by simp [hq];omega⟩,vH hq j (by omega)];rw [show 3+j-3=j by omega,Array.getElem?_toList]
  ·obtain ⟨j,rfl⟩:∃j,i=27+j:=⟨i-27,by omega⟩
   rw [if_neg (by simp [hq]),yT hp j,yT hq j]
theorem zgX (hp:pc.size=24) (x u:Int):Jk (qU on pn ps pc m st bd) 27 [x,.int .i64 0,.int .i64 0,u]=qU on pn ps pc x u bd:=by
 apply Array.ext';apply List.ext_getElem?;intro i;rw [Array.getElem?_toList,Array.getElem?_toList,Qw _ _ _ _ (by rw [yS hp];simp)]
 by_cases h:i<3
 ·rw [if_neg (by omega),Zq hp i h,Zq hp i h]
 ·by_cases h2:i<27
  ·obtain ⟨j,rfl⟩:∃j,i=3+j:=⟨i-3,by omega⟩
   rw [if_neg (by omega),vH hp j (by omega),vH hp j (by omega)]
  ·obtain ⟨j,rfl⟩:∃j,i=27+j:=⟨i-27,by omega⟩
   rw [yT hp j]
   by_cases h3:j<4
   ·rw [if_pos ⟨by omega,by simp;omega⟩,show 27+j-27=j by omega,yT hp j]
    match j,h3 with
    | 0,_=>rfl
    | 1,_=>rfl
    | 2,_=>rfl
    | 3,_=>rfl
   ·rw [if_neg (by simp;omega),yT hp j]
    obtain ⟨q,rfl⟩:∃q,j=4+q:=⟨j-4,by omega⟩
    rw [show 4+q=q+1+1+1+1 by omega];rfl
end
theorem zcZ (E:Nat) (on:Bool) (pn ps:Int) (pc:Array Value) (m st bd:Int) (hp:pc.size=24) (r:PR) (B:Nat) (w:World) (hA:At w E 98 (qU on pn ps pc m st bd)) (hr:qG w B r (.agg pc)) (hb:Z6 r=true) :
  Calls Tryz.prog 109 #[.pointer (some ⟨E,0,none⟩),.bool false] w fun e w'=>e=.returned (.agg #[.int .i64 4,.int .i64 (-1)])∧Below w.heap.size w w':=by
 have hu:=Tryz.underlying98;have hu2:=Tryz.underlying96;have hu3:=Tryz.underlying174;have RU:=za (fun (W:World) (h:qG W B r (.agg pc))=>h.ruined);rw [hb] at RU;clear hb;have HA:=za hA;have HR:=za hr;clear hA hr;go_enter Tryz.func109,Tryz.ntmps109;go_wp2_with (refine qg rfl 76 _ rfl E 3 _ rfl (ZQ (HA.out.alloc _) hp) ?_)
 obtain ⟨W0,hW0⟩:=zc ((w.alloc (.cells #[.int .i64 0,.int .i64 0] 174)));obtain ⟨bx,b0,hsz⟩:=z6 hW0;rw [hW0];clear hW0;have F:=za (((Off.start b0 hsz).argA b0 (HA.out)).argR b0 (HR.out));have BX:=za bx;clear bx b0 hsz;obtain ⟨g,hg⟩:=zc (w.heap.size);rw [hg] at F BX
 try simp only [hg]
 try simp only [World.size_alloc,hg]
 refine (RU.out _ F.out.out.2).mono ?_;rintro e w1 ⟨rfl,hb⟩;replace F:=zd F hb;replace BX:=ze BX hb;clear hb;have o0:=(BX.out.1).cell 0;have zo0:=(BX.out.1).frozen 0;have o1:=(BX.out.1).cell 1;have zo1:=(BX.out.1).frozen 1;go_wp2_with fail;clear o0 zo0 o1 zo1;have OO:=(BX.out.1).set 0 (.int .i64 4) rfl;have d0:=(OO.set 1 (.int .i64 (-1)) rfl).cell 0;have d1:=(OO.set 1 (.int .i64 (-1)) rfl).cell 1
 exact bodyPost_ret (v:=.agg #[.int .i64 4,.int .i64 (-1)]) (by simp [results,Tryz.results109,go_sem,d0,d1]) rfl ⟨rfl,by first | exact zj (zj (F.out.out.1.1) (by omega) _ _) (by omega) _ _|(rw [hg];exact zj (zj (F.out.out.1.1) (by omega) _ _) (by omega) _ _)⟩
theorem YI (E:Nat) (on:Bool) (pn ps:Int) (pc:Array Value) (m st bd:Int) (hp:pc.size=24) (r:PR) (B:Nat) (w:World) (hA:At w E 98 (qU on pn ps pc m st bd)) (hr:qG w B r (.agg pc)) (hb:Z6 r=false) :
  Calls Tryz.prog 109 #[.pointer (some ⟨E,0,none⟩),.bool false] w fun e w'=>e=.returned (.agg #[.int .i64 2,.int .i64 (-1)])∧Below w.heap.size w w':=by
 have hu:=Tryz.underlying98;have hu2:=Tryz.underlying96;have hu3:=Tryz.underlying174;have RU:=za (fun (W:World) (h:qG W B r (.agg pc))=>h.ruined);rw [hb] at RU;clear hb;have HA:=za hA;have HR:=za hr;clear hA hr;go_enter Tryz.func109,Tryz.ntmps109;go_wp2_with (refine qg rfl 76 _ rfl E 3 _ rfl (ZQ (HA.out.alloc _) hp) ?_)
 obtain ⟨W0,hW0⟩:=zc ((w.alloc (.cells #[.int .i64 0,.int .i64 0] 174)));obtain ⟨bx,b0,hsz⟩:=z6 hW0;rw [hW0];clear hW0;have F:=za (((Off.start b0 hsz).argA b0 (HA.out)).argR b0 (HR.out));have BX:=za bx;clear bx b0 hsz;obtain ⟨g,hg⟩:=zc (w.heap.size);rw [hg] at F BX
 try simp only [hg]
 try simp only [World.size_alloc,hg]
 refine (RU.out _ F.out.out.2).mono ?_;rintro e w1 ⟨rfl,hb⟩;replace F:=zd F hb;replace BX:=ze BX hb;clear hb;have o0:=(BX.out.1).cell 0;have zo0:=(BX.out.1).frozen 0;have o1:=(BX.out.1).cell 1;have zo1:=(BX.out.1).frozen 1;go_wp2_with fail;clear o0 zo0 o1 zo1;have OO:=(BX.out.1).set 0 (.int .i64 2) rfl;have d0:=(OO.set 1 (.int .i64 (-1)) rfl).cell 0;have d1:=(OO.set 1 (.int .i64 (-1)) rfl).cell 1
 exact bodyPost_ret (v:=.agg #[.int .i64 2,.int .i64 (-1)]) (by simp [results,Tryz.results109,go_sem,d0,d1]) rfl ⟨rfl,by first | exact zj (zj (F.out.out.1.1) (by omega) _ _) (by omega) _ _|(rw [hg];exact zj (zj (F.out.out.1.1) (by omega) _ _) (by omega) _ _)⟩
end
section
attribute [local go_sem] Oper.semAt_some
theorem ziT (w:World):(Go.sizeOf 94).run Tryz.prog w=.ok 3 w:=by kernel_rfl
theorem ziU (w:World):(Go.sizeOf 61).run Tryz.prog w=.ok 4 w:=by kernel_rfl
theorem zkv {s:Int} {n:Nat} {l:List Int} (h:zQ 1 s n l=true):(zbg n l).ok:=by
 obtain ⟨hn1,hn4,_,_,_,hkl⟩:=zX h;have hkl2:(l.length:Int)=(n:Int)+(n:Int)*(n:Int):=by omega
 have hll:l.length=n+n*n:=by exact_mod_cast hkl2
 have hs:zt n n (zM (l.drop n)):=⟨by omega,by omega,by omega,by omega,by rw [jo,List.length_drop,hll];omega⟩
 exact ⟨by show n≤4;omega,hs.clear.square,hs.clear⟩
theorem qG.touch {w w':World} {B:Nat} {G:List Nat} {r:PR} {v:Value} (h:qG w B r v) (k:zD G w w') (hG:∀q,q∈G→q<B):qG w' B r v:=by
 obtain ⟨hk,A0,c0,A1,m1,c1,B0,d0,B1,k1,d1,e,n0,n1,n2,n3,f0,f1,f2,f3⟩:=h
 have key:∀ {A:Option Addr} {n c:Nat} {xs:List Num},zk w A n c xs→(∀q o,A=some ⟨q,o,none⟩→B≤q)→zk w' A n c xs:=fun {A n c xs} a f =>
  ⟨a.1,a.2.1,fun hn=>by
   obtain ⟨b,o,e,hc⟩:=a.2.2 hn;exact ⟨b,o,e,fun i x hx=>by simp only [jb (k.block b (a.low b o e hn) (fun hq=>by have:=hG b hq;have:=f b o e;omega))];exact hc i x hx⟩⟩
 exact ⟨hk,A0,c0,A1,m1,c1,B0,d0,B1,k1,d1,e,key n0 f0,key n1 f1,key n2 f2,key n3 f3,f0,f1,f2,f3⟩
theorem zft (E:Nat) (on:Bool) (pn ps:Int) (pc:Array Value) (m st bd:Int) (hp:pc.size=24) (hps:0≤ps∧ps≤4294967295) (hw:zcI m st) (s:Int) (n:Nat) (A:Option Addr) (mm c:Nat) (l:List Int) (w:World)
  (hA:At w E 98 (qU on pn ps pc m st bd)) (hx:zU w A mm c l) (hAE:∀q o,A=some ⟨q,o,none⟩→q≠E) (hmm:mm≤1000) (hok:zQ 1 s n l=true) (hso:jQ 1 s n l=0) (hne:Zb on pn ps 1 s n l=0) :
  Calls Tryz.prog 76 #[.pointer (some ⟨E,0,none⟩),qV 1 s n A mm c] w fun e w'=>e=.returned (.bool false)∧zD [E] w w'∧∃pc', pc'.size=24∧At w' E 98 (qU true n s pc' 1 0 bd)∧qG w' w.heap.size (zbg n l) (.agg pc'):=by
 have hu:=Tryz.underlying98;have hu2:=Tryz.underlying96;have hu3:=Tryz.underlying47;have hu4:=Tryz.underlying61;have hu5:=Tryz.underlying94;have hu6:=Tryz.underlying174;have BE:=za (fun W h=>VN on pn ps 1 s n hps A mm c l hmm W h hne);have LB:=za (fun W h=>zfd s n A mm c l W h hok hso);have WB:=za (fun W=>zeD m st hw W);have OK:=za (zkv hok);have hEl:=hA.lt;have HX:=za hx
 have EA:=za hA;clear hx hA hok hso hne hw;unfold qV at BE LB ⊢;unfold yG at WB;unfold Jj at BE;go_enter Tryz.func76,Tryz.ntmps76;go_wp2_with fail;obtain ⟨W0,hW0⟩:=zc ((w.alloc (.cells #[.int .i64 1,s,.int .i64 (n:Int),.slice A mm c] 47)));obtain ⟨bx,b0,hsz⟩:=z6 hW0;rw [hW0];clear hW0;have F:=za ((Off.startG (G:=[E]) (by simp;exact hEl) b0 hsz).argGI b0 (HX.out) (fun q o e hq=>hAE q o e (by simpa using hq)))
 have BX:=za bx;have BB:=za b0;clear bx b0 hsz;obtain ⟨g,hg⟩:=zc (w.heap.size);rw [hg] at F BX
 try simp only [hg]
 replace EA:=za (EA.out.below BB.out);clear BB;have hEg:E<g:=by rw [←hg];exact hEl
 obtain ⟨h0,h1,h2⟩:=zau EA.out hp;have x0:=(BX.out.1).cell 0;have x1:=(BX.out.1).cell 1;have x2:=(BX.out.1).cell 2;have x3:=(BX.out.1).cell 3;refine wp_region_any (by kernel_rfl) ?_;refine QI 11 9 (by kernel_rfl) ?_;simp only [List.modify_succ_cons,List.modify_zero_cons,vd,List.push_toArray,List.cons_append,List.nil_append];refine QI 11 8 (by kernel_rfl) ?_;simp only [List.modify_succ_cons,List.modify_zero_cons,vd,List.push_toArray,List.cons_append,List.nil_append]
 refine jH [] [0,1,2,3,4,5,6] [7,8,9,10,11] (.cons rfl (.cons rfl (.cons rfl (.cons rfl (.cons rfl (.cons rfl (.cons rfl .nil))))))) (.cons rfl (.cons rfl (.cons rfl (.cons rfl (.cons rfl .nil))))) (by kernel_rfl) (fun c a d v w h=>by cases d<;>exact h) ?_;have kh0:=fun x=>But.cell (G:=[]) h0 (by simp) x;have kh1:=fun x=>But.cell (G:=[]) h1 (by simp) x;have kh2:=fun x=>But.cell (G:=[]) h2 (by simp) x
 have kx0:=fun x=>But.cell (G:=[]) x0 (by simp) x;have kx1:=fun x=>But.cell (G:=[]) x1 (by simp) x;have kx2:=fun x=>But.cell (G:=[]) x2 (by simp) x;have kx3:=fun x=>But.cell (G:=[]) x3 (by simp) x;iterate 7 (go_big_quiet_step (fail))
 refine wpQuiet_nil ?_;clear kh0 kh1 kh2 kx0 kx1 kx2 kx3 h0 h1 h2 x0 x1 x2 x3;have hdr:Below W0.heap.size W0 W0.drew:=⟨rfl,rfl,rfl,Nat.le_refl _,fun _ _=>rfl⟩
 have HB:=za ((zC.refl W0 []).drew);obtain ⟨v1,hv1⟩:∃V,W0.drew=V:=⟨_,rfl⟩
 rw [hv1] at hdr HB ⊢;clear hv1;replace F:=zd F hdr;replace BX:=ze BX hdr;replace EA:=za (EA.out.below hdr);clear hdr;refine zp rfl (fun K hK=>?_);go_simp;refine (BE.out _ F.out.out.2).mono ?_;rintro e w2 ⟨rfl,hb⟩;refine hK _ _ (zI (HB.out.call hb)) ?_;clear hK K;replace HB:=za (HB.out.call hb);replace F:=zd F hb;replace BX:=ze BX hb;replace EA:=za (EA.out.below hb);clear hb;iterate 3 (refine zp rfl (fun K hK=>?_);go_simp;refine hK _ _ (zI HB.out) ?_;clear hK K)
 refine zZ rfl (fun K hK=>?_);refine vV 94 _ _ rfl E 0 #[.bool true,.int .i64 (n:Int),s] _ _ 98 rfl rfl (ziT _) EA.out (by rw [yS hp];simp) rfl (zgW hp _ _ _) ?_;intro WA hoZ haZ;refine hK _ _ ?_;clear hK K HB;replace F:=za (F.out.touch (hoZ.touch (by simp)));replace BX:=za (BX.out.touch (hoZ.touch (G:=[E]) (by simp)) F.out.gl);replace EA:=za haZ;clear hoZ haZ;have x0:=(BX.out.1).cell 0
 have x1:=(BX.out.1).cell 1;have x2:=(BX.out.1).cell 2;have x3:=(BX.out.1).cell 3;go_wp2_with fail;clear x0 x1 x2 x3;refine (LB.out _ F.out.out.2).mono ?_;rintro e w3 ⟨⟨v,rfl,hv⟩,hb⟩;obtain ⟨pc', rfl,hp', h1'⟩:=qG.agg (⟨OK.out,hv⟩:qG _ _ (zbg n l) _);have hbs:g≤WA.heap.size:=by have:=F.out.hiw;omega
 replace F:=zd F hb;replace BX:=ze BX hb;replace EA:=za (EA.out.below hb);have RR:=za (qG.base (⟨OK.out,hv⟩:qG _ _ (zbg n l) _) hbs);clear hb hv hbs;go_wp2_with (refine Zh rfl 76 _ _ rfl E 3 pc' _ _ 98 rfl rfl (by rw [hp'];exact zfU _) EA.out (by rw [yS hp,hp'];decide) h1' (zeV hp pc' hp') ?_;intro WZ hoZ haZ;obtain ⟨h27,h28,h29,h30,h31⟩:=Jc haZ hp')
 clear h27 h28 h29 h30 h31;replace F:=za (F.out.touch (hoZ.touch (by simp)));replace BX:=za (BX.out.touch (hoZ.touch (G:=[E]) (by simp)) F.out.gl);replace RR:=za (RR.out.only hoZ (by omega));replace EA:=za haZ;clear hoZ haZ;refine (WB.out _).mono ?_;rintro e w4 ⟨rfl,hb⟩;replace F:=zd F hb;replace BX:=ze BX hb;replace EA:=za (EA.out.below hb);replace RR:=za (RR.out.below hb);clear hb
 go_wp2_with (refine Zh rfl 61 _ _ rfl E 27 #[.int .i64 1,.int .i64 0,.int .i64 0,.int .i64 0] _ _ 98 rfl rfl (ziU _) EA.out (by rw [yS hp'];decide) rfl (zgX hp' 1 0) ?_;intro WY hoZ haZ)
 replace F:=za (F.out.touch (hoZ.touch (by simp)));replace BX:=za (BX.out.touch (hoZ.touch (G:=[E]) (by simp)) F.out.gl);replace RR:=za (RR.out.only hoZ (by omega));replace EA:=za haZ;clear hoZ haZ;go_ret;exact ⟨rfl,by first | exact F.out.out.1|(rw [hg];exact F.out.out.1),pc', hp', EA.out,by first | exact RR.out|(rw [hg];exact RR.out)⟩
end
end Go.Proofs.YtcoiklclbljjeaaGreatDoor.L
