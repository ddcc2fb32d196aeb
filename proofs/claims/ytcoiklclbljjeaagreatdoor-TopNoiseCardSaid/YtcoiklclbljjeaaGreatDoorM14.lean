/- Lemmas of the card's proof. -/
import Derived.Test.YtcoiklclbljjeaaGreatDoorM13
set_option linter.unusedVariables false
set_option linter.unusedSimpArgs false
set_option maxRecDepth 100000
set_option maxHeartbeats 16000000
namespace Go.Proofs.YtcoiklclbljjeaaGreatDoor.L
open Go.RowKit
structure zt (r c:Nat) (l:List Num):Prop where
 r1:1≤r
 r2:r≤16
 c1:1≤c
 c2:c≤16
 len:l.length=r*c
theorem zt.prod {r c:Nat} {l:List Num} (h:zt r c l):r*c≤256:=by
 have:=Nat.mul_le_mul h.r2 h.c2;omega
theorem zt.right {r c n:Nat} {l:List Num} (h:zt r c l) (hn:l.length=n):QR r c n=true:=by
 unfold QR;rw [Vo.mpr (by have:=h.r1;have:=h.r2;omega),Vo.mpr (by have:=h.c1;have:=h.c2;omega)];have:(n:Int)=(r:Int)*(c:Int):=by rw [←hn,h.len];simp
 simp [this]
def zj0 (r c:Nat) (l:List Num) (w:World) (e:Ending) (w':World):Prop:=∃A n cp,e=.returned (.tuple #[zE r c A n cp,.bool true])∧zk w' A n cp l∧Below w.heap.size w w'
def zhp (r c:Nat) (l:List Num) (w:World) (e:Ending) (w':World):Prop:=∃A n cp,e=.returned (zE r c A n cp)∧zk w' A n cp l∧Below w.heap.size w w'
def qM (r c:Nat) (l:List Num) (w:World) (e:Ending) (w':World):Prop:=∃A n cp,e=.returned (.tuple #[zE r c A n cp,.bool true])∧zk w' A n cp l∧Below w.heap.size w w'∧∀b o,A=some ⟨b,o,none⟩→w.heap.size≤b
theorem qM.ret {r c:Nat} {l:List Num} {w w':World} {e:Ending} (h:qM r c l w e w'):zj0 r c l w e w':=by
 obtain ⟨A,n,cp,h1,h2,h3,_⟩:=h;exact ⟨A,n,cp,h1,h2,h3⟩
theorem zY {w:World} {B n c:Nat} {A:Option Addr} {xs:List Num} (h:zH w B (.slice A n c) xs):∀b o,A=some ⟨b,o,none⟩→B≤b:=fun b o e=>by subst e;exact (World.ownsRow.lt h b rfl).1
def QJ (r c:Nat) (l:List Num) (w:World) (e:Ending) (w':World):Prop:=∃A n cp,e=.returned (zE r c A n cp)∧zk w' A n cp l∧Below w.heap.size w w'∧∀b o,A=some ⟨b,o,none⟩→w.heap.size≤b
theorem QJ.ret {r c:Nat} {l:List Num} {w w':World} {e:Ending} (h:QJ r c l w e w'):zhp r c l w e w':=by
 obtain ⟨A,n,cp,h1,h2,h3,_⟩:=h;exact ⟨A,n,cp,h1,h2,h3⟩
theorem At.three {w:World} {g:Nat} {t:TypeId} {a b c:Value} (h:At w g t #[a,b,c]):w.cell? ⟨g,0,none⟩=some a∧w.cell? ⟨g,1,none⟩=some b∧w.cell? ⟨g,2,none⟩=some c:=⟨h.cell 0,h.cell 1,h.cell 2⟩
theorem At.set3 {w:World} {g:Nat} {t:TypeId} {a b c:Value} (h:At w g t #[a,b,c]) (x y z:Value):At (((w.setCell ⟨g,0,none⟩ x).setCell ⟨g,1,none⟩ y).setCell ⟨g,2,none⟩ z) g t #[x,y,z]:=((h.set 0 x rfl).set 1 y rfl).set 2 z rfl
theorem At.far3 {w:World} {g q:Nat} {t:TypeId} {cs:Array Value} (h:At w g t cs) (hq:g≠q) (x y z:Value):At (((w.setCell ⟨q,0,none⟩ x).setCell ⟨q,1,none⟩ y).setCell ⟨q,2,none⟩ z) g t cs :=
 ((h.far (p:=⟨q,0,none⟩) hq x).far (p:=⟨q,1,none⟩) hq y).far (p:=⟨q,2,none⟩) hq z
theorem jd {B q:Nat} {a w:World} (h:Below B a w) (hq:B≤q) (x y z:Value):Below B a (((w.setCell ⟨q,0,none⟩ x).setCell ⟨q,1,none⟩ y).setCell ⟨q,2,none⟩ z):=zj (zj (zj h hq _ _) hq _ _) hq _ _
theorem Yg {w:World} {b i g:Nat} {v u0 u1 u2:Value} (h:w.cell? ⟨b,i,none⟩=some v) (hne:b≠g):(((w.setCell ⟨g,0,none⟩ u0).setCell ⟨g,1,none⟩ u1).setCell ⟨g,2,none⟩ u2).cell? ⟨b,i,none⟩=some v:=ZO (ZO (ZO h hne) hne) hne
theorem zk.set3 {w W:World} {A:Option Addr} {n c g:Nat} {t:TypeId} {cs:Array Value} {xs:List Num} (h:zk W A n c xs) (hg:At W g t cs) (hc:∀i v,W.cell? ⟨g,i,none⟩=some v→∀x:Num,v≠.bool x.bad) (x y z:Value):zk (((W.setCell ⟨g,0,none⟩ x).setCell ⟨g,1,none⟩ y).setCell ⟨g,2,none⟩ z) A n c xs :=
 ⟨h.1,h.2.1,fun hn=>by
  obtain ⟨b,o,e,hk⟩:=h.2.2 hn;refine ⟨b,o,e,fun k x hx=>?_⟩;have hne:b≠g:=fun e=>by subst e;exact hc _ _ (hk k x hx).2.2.2 x rfl
  exact ⟨Yg (hk k x hx).1 hne,Yg (hk k x hx).2.1 hne,Yg (hk k x hx).2.2.1 hne,Yg (hk k x hx).2.2.2 hne⟩⟩
theorem qQ {W:World} {g:Nat} {t:TypeId} {a b:Int} {v3:Option Addr} {n c:Nat} {k1 k2:IntKind} (h:At W g t #[.int k1 a,.int k2 b,.slice v3 n c]):∀i v,W.cell? ⟨g,i,none⟩=some v→∀x:Num,v≠.bool x.bad:=by
 intro i v hv x e;subst e;rw [h.cell] at hv
 match i,hv with
 | 0,hv=>simp at hv
 | 1,hv=>simp at hv
 | 2,hv=>simp at hv
 | i+3,hv=>simp at hv
theorem vE (r c:Nat) (A:Option Addr) (n cp:Nat) (l:List Num) (hs:zt r c l) (w:World) (hl:zk w A n cp l):Calls Tryz.prog 148 #[.int .i64 (r:Int),.int .i64 (c:Int),.slice A n cp] w (qM r c l w):=by
 have hu:=Tryz.underlying65;have hn:n≤256:=by rw [←hl.1,hs.len];exact hs.prod
 have D:=za (fun (W:World) (hb:Below w.heap.size w W)=>jU A n cp l (by omega) W (hl.below hb));have R:=za (fun (A:Option Addr) (cp:Nat) (W:World)=>(by have:=qI r c A n cp W;rw [hs.right hl.1] at this;exact this:Calls Tryz.prog 119 #[zE r c A n cp] W fun e w'=>e=.returned (.bool true)∧Below W.heap.size W w'));have HN:=za hl.1;clear hl;unfold zE at R;go_enter Tryz.func148,Tryz.ntmps148
 go_wp2_with fail;have A0:=za (At.new w 65 #[.int .i64 0,.int .i64 0,.slice none 0 0]);have B0:=za (zg (Below.refl w.heap.size w) (.cells #[.int .i64 0,.int .i64 0,.slice none 0 0] 65));obtain ⟨W0,hW0⟩:=zc ((w.alloc (.cells #[.int .i64 0,.int .i64 0,.slice none 0 0] 65)));have hWg:=za (show W0.heap.size=w.heap.size+1 by rw [←hW0];simp);rw [hW0] at A0 B0 ⊢;clear hW0;obtain ⟨g,hg⟩:=zc (w.heap.size)
 rw [hg] at A0 B0 hWg
 try simp only [hg]
 refine (D.out _ (by rw [hg];exact B0.out)).mono ?_;rintro e w1 ⟨A1,n1,c1,rfl,ho,hb1⟩;obtain rfl:n1=n:=(zL ho).trans HN.out;have O:=za ho.nums;have OF:=za (zY ho);have K1:=za hb1;clear ho hb1;go_wp2_with fail;refine (R.out _ _ _).mono ?_;rintro e w2 ⟨rfl,hb2⟩;have A8':=za (((A0.out.below K1.out).alloc (.cells #[.int .i64 (r:Int),.int .i64 (c:Int),.slice A1 n1 c1] 65)).below hb2)
 have A9':=za ((At.new w1 65 #[.int .i64 (r:Int),.int .i64 (c:Int),.slice A1 n1 c1]).below hb2);have O2:=za ((O.out.below (zg (Below.refl w1.heap.size w1) (.cells #[.int .i64 (r:Int),.int .i64 (c:Int),.slice A1 n1 c1] 65))).below hb2);have KB:=za (zi (zg K1.out (.cells #[.int .i64 (r:Int),.int .i64 (c:Int),.slice A1 n1 c1] 65)) hb2);clear hb2;obtain ⟨q,hq⟩:=zc (w1.heap.size)
 rw [hq] at A9';simp only [hq];clear hq;obtain ⟨r0,r1,r2⟩:=A8'.out.three;have z0:=A8'.out.frozen 0;have z1:=A8'.out.frozen 1;have z2:=A8'.out.frozen 2;obtain ⟨s0,s1,s2⟩:=A9'.out.three;go_wp2_with fail;obtain ⟨d0,d1,d2⟩:=(A8'.out.set3 (.int .i64 (r:Int)) (.int .i64 (c:Int)) (.slice A1 n1 c1)).three;have hbl:=zq B0.out (by rw [hWg.out];omega) KB.out;refine bodyPost_ret (v:=.tuple #[.agg #[.int .i64 (r:Int),.int .i64 (c:Int),.slice A1 n1 c1],.bool true]) (by simp [results,Tryz.results148,go_sem,d0,d1,d2]) rfl ⟨A1,n1,c1,rfl,O2.out.set3 (w:=w) A8'.out (qQ A8'.out) _ _ _,?_,fun b o e=>Nat.le_trans (by rw [hWg.out];omega) (OF.out b o e)⟩
 rw [hg];exact jd hbl (by omega) _ _ _
def qe:Num:=⟨0,0,0,false⟩
def atM (c:Nat) (l:List Num) (i k:Nat):Num:=l.getD (i*c+k) qe
theorem zgo {r c i k:Nat} (hi:i<r) (hk:k<c):i*c+k<r*c:=by
 have:(i+1)*c≤r*c:=Nat.mul_le_mul_right _ hi;rw [Nat.add_mul,Nat.one_mul] at this;omega
theorem zd4 (r c:Nat) (A:Option Addr) (n cp:Nat) (l:List Num) (hs:zt r c l) (i k:Nat) (hi:i<r) (hk:k<c) (w:World) (hl:zk w A n cp l):Calls Tryz.prog 146 #[zE r c A n cp,.int .i64 (i:Int),.int .i64 (k:Int)] w fun e w'=>e=.returned (atM c l i k).val∧Below w.heap.size w w':=by
 have hu:=Tryz.underlying65;have hu1:=Tryz.underlying71;have h256:=hs.prod;have R:=za (show ∀W,Calls Tryz.prog 119 #[zE r c A n cp] W fun e w'=>e=.returned (.bool true)∧Below W.heap.size W w' from fun W=>by have:=qI r c A n cp W;rw [hs.right hl.1] at this;exact this);have hlt:=zgo hi hk;have hn:r*c=n:=by rw [←hs.len,hl.1]
 obtain ⟨p,hp⟩:=zc (i*c);have hpi:(i:Int)*(c:Int)=(p:Int):=by rw [←hp];simp
 rw [hp] at hlt;have hpn:p+k<n:=by omega
 have hX:=za hl;obtain ⟨b,o,x,rfl,hx,x0,x1,x2,x3⟩:=hl.at_ hpn;have E:=za (show atM c l i k=x by unfold atM;rw [hp,List.getD_eq_getElem?_getD,hx];rfl);have hr16:=hs.r2;have hc16:=hs.c2;have hxb:=za (show b<w.heap.size from World.block_lt_of_cell? w ⟨b,_,none⟩ x0);have X0:=za x0;have X1:=za x1;have X2:=za x2;have X3:=za x3;have hp0:(0:Int)≤(p:Int)+(k:Int):=by omega
 have hp1:(p:Int)+(k:Int)<(n:Int):=by omega
 have hn256:n≤256:=by omega
 have hic:(i:Int)<(r:Int):=by omega
 have hkc:(k:Int)<(c:Int):=by omega
 clear hp hx hl x0 x1 x2 x3 hn;obtain ⟨xv,xl,xh,xb⟩:=x;rw [E.out];unfold zE at R ⊢;unfold Num.val;dsimp only at X0 X1 X2 X3 ⊢;go_enter Tryz.func146,Tryz.ntmps146;go_wp2_with fail;have A0:=za ((At.new w 65 #[.int .i64 (r:Int),.int .i64 (c:Int),.slice (some ⟨b,o,none⟩) n cp]).alloc (.cells #[.int .i64 0,.int .i64 0,.int .i64 0,.bool false] 71));have A1:=za (At.new (w.alloc (.cells #[.int .i64 (r:Int),.int .i64 (c:Int),.slice (some ⟨b,o,none⟩) n cp] 65)) 71 #[.int .i64 0,.int .i64 0,.int .i64 0,.bool false])
 have B0:=za (zg (zg (Below.refl w.heap.size w) (.cells #[.int .i64 (r:Int),.int .i64 (c:Int),.slice (some ⟨b,o,none⟩) n cp] 65)) (.cells #[.int .i64 0,.int .i64 0,.int .i64 0,.bool false] 71));obtain ⟨W0,hW0⟩:=zc (((w.alloc (.cells #[.int .i64 (r:Int),.int .i64 (c:Int),.slice (some ⟨b,o,none⟩) n cp] 65)).alloc (.cells #[.int .i64 0,.int .i64 0,.int .i64 0,.bool false] 71)))
 simp only [World.size_alloc] at A1;have hWg:=za (show W0.heap.size=w.heap.size+2 by rw [←hW0];simp);rw [hW0] at A0 A1 B0 ⊢;clear hW0;obtain ⟨g,hg⟩:=zc (w.heap.size);rw [hg] at A0 A1 B0 hWg
 try simp only [hg]
 refine (R.out _).mono ?_;rintro e w1 ⟨rfl,hb1⟩;have K1:=za hb1;obtain ⟨m0,m1,m2⟩:=(A0.out.below hb1).three;have A8':=za (A1.out.below hb1);clear hb1;obtain ⟨r0,r1,r2,r3⟩:=A8'.out.four;have z0:=A8'.out.frozen 0;have z1:=A8'.out.frozen 1;have z2:=A8'.out.frozen 2;have z3:=A8'.out.frozen 3;have hww:=za (zq B0.out (by rw [hWg.out];omega) K1.out);rw [←hg] at hww;have x0:=zR hww.out _ _ _ X0.out
 have x1:=zR hww.out _ _ _ X1.out;have x2:=zR hww.out _ _ _ X2.out;have x3:=zR hww.out _ _ _ X3.out;go_wp2_with fail;have hk4:=(((A8'.out.set 0 xv rfl).set 1 xl rfl).set 2 xh rfl).set 3 xb rfl;obtain ⟨d0,d1,d2,d3⟩:=hk4.four;have hbl:=zq B0.out (by rw [hWg.out];omega) K1.out;exact bodyPost_ret (v:=.agg #[xv,xl,xh,xb]) (by simp [results,Tryz.results146,go_sem,d0,d1,d2,d3]) rfl ⟨rfl,by rw [hg];exact zj (zj (zj (zj hbl (by omega) _ _) (by omega) _ _) (by omega) _ _) (by omega) _ _⟩
theorem zg4 (r c:Nat) (A:Option Addr) (n cp:Nat) (l:List Num) (hs:zt r c l) (i:Nat) (hi:i<r) (w:World) (hl:zk w A n cp l):Calls Tryz.prog 125 #[zE r c A n cp,.int .i64 (i:Int)] w (jl ((l.drop (i*c)).take c) w):=by
 have hu:=Tryz.underlying65;have h256:=hs.prod;have R:=za (show ∀W,Calls Tryz.prog 119 #[zE r c A n cp] W fun e w'=>e=.returned (.bool true)∧Below W.heap.size W w' from fun W=>by have:=qI r c A n cp W;rw [hs.right hl.1] at this;exact this);have hn:r*c=n:=by rw [←hs.len,hl.1]
 have hle:(i+1)*c≤r*c:=Nat.mul_le_mul_right _ hi;obtain ⟨p,hp⟩:=zc (i*c);have hp1:(i+1)*c=p+c:=by rw [Nat.add_mul,Nat.one_mul,hp]
 have hpi:(i:Int)*(c:Int)=(p:Int):=by rw [←hp];simp
 have hpj:((i:Int)+1)*(c:Int)=(p:Int)+(c:Int):=by rw [Int.add_mul,hpi,Int.one_mul]
 have hc1:=hs.c1;have hr16:=hs.r2;have hc16:=hs.c2;have hn256:n≤256:=by omega
 have hpn:p+c≤n:=by omega
 rw [hp];have hcp:=hl.2.1;have HX:=za hl;obtain ⟨b,o,rfl,hcells⟩:=hl.2.2 (by omega);have hlen:=hl.1
 have HR:=za (show zk w (some ⟨b,o+p*4,none⟩) c (cp-p) ((l.drop p).take c) from ⟨by rw [List.length_take,List.length_drop];omega,by omega,fun _=>⟨b,o+p*4,rfl,fun k x hx=>by
  have hk:k<c:=by have:=(List.getElem?_eq_some_iff.1 hx).1;rw [List.length_take] at this;omega
  rw [List.getElem?_take_of_lt hk,List.getElem?_drop] at hx;have:=hcells _ _ hx;rw [Nat.add_mul,←Nat.add_assoc] at this;exact this⟩⟩)
 have D:=za (fun (W:World) (hb:Below w.heap.size w W)=>jU (some ⟨b,o+p*4,none⟩) c (cp-p) _ (by omega) W (HR.out.below hb));have hic:(i:Int)<(r:Int):=by omega
 clear hp hp1 hle hl hcells hlen hn;unfold zE at R ⊢;go_enter Tryz.func125,Tryz.ntmps125;go_wp2_with fail;have A0:=za (At.new w 65 #[.int .i64 (r:Int),.int .i64 (c:Int),.slice (some ⟨b,o,none⟩) n cp]);have B0:=za (zg (Below.refl w.heap.size w) (.cells #[.int .i64 (r:Int),.int .i64 (c:Int),.slice (some ⟨b,o,none⟩) n cp] 65));obtain ⟨W0,hW0⟩:=zc ((w.alloc (.cells #[.int .i64 (r:Int),.int .i64 (c:Int),.slice (some ⟨b,o,none⟩) n cp] 65)))
 have hWg:=za (show W0.heap.size=w.heap.size+1 by rw [←hW0];simp);rw [hW0] at A0 B0 ⊢;clear hW0;obtain ⟨g,hg⟩:=zc (w.heap.size);rw [hg] at A0 B0 hWg
 try simp only [hg]
 refine (R.out _).mono ?_;rintro e w1 ⟨rfl,hb1⟩;have K1:=za (zq B0.out (by rw [hWg.out];omega) hb1);obtain ⟨m0,m1,m2⟩:=(A0.out.below hb1).three;have hs1:=za (show g≤w1.heap.size by have:=hb1.size;rw [hWg.out] at this;omega);clear hb1;go_wp2_with fail;refine (D.out _ (by rw [hg];exact K1.out)).mono ?_;rintro e w2 ⟨A1,n1,c1,rfl,ho,hb2⟩;have HO:=za ho;have K2:=za (zq K1.out hs1.out hb2)
 clear ho hb2;go_wp2_with fail;go_ret;exact ⟨A1,n1,c1,rfl,jW HO.out (by rw [hg];exact hs1.out),by rw [hg];exact K2.out⟩
theorem Xa0 {P:Prop} (h:P:=by
 rw [←hW1];have:=World.alloc_heap_new (w.alloc (.deferred (some []))) (.loop rc);rwa [World.size_alloc] at this) : P := h
theorem Xbn {P:Prop} (h:P:=by
 rw [←hW1];exact (Below.heap_alloc _ _ _ (by simp)).trans (World.alloc_heap_new w _)) : P := h
theorem XbC {P:Prop} (h:P:=by
 rw [←hW1];exact hI _ _ _ none (hI _ _ _ none h0 (World.grownBy_alloc w _ none) (fun r e=>by cases e)) (World.grownBy_alloc _ _ none) (fun r e=>by cases e)) : P := h
section
variable {F:Fence} {n:Nat} {P:Program}
def Vp (B:Nat) (W:World) (I:World→Prop):Exit→Act→World→Prop
 | .normal,_,W'=>KeepsFrom B W W'∧I W'
 | _,_,_=>False
theorem Vg {f:FuncId} (hf:F.fn f) {l ds:Nat} {tmps:Array Value} {ps:Array Tmp} {assign body:Code} {args:Array Value} {W:World} {I:World→Prop}
  (hl:W.heap[l]?=some (.loop { state:=.ready,pending:=none,fn:=f,tmps,params:=ps,assign,body,defers:=ds })) (hs:args.size=ps.size) {B:Nat} (hB:B≤l)
  (h:assign.wpIn (F.inRound l) n P (Exit.then (fun a' Wa=>KeepsFrom B W Wa∧∀W2,Wa.grownBy W2 (some l)→(∃o:Obj,Wa.heap[l]?=some o∧o.isCells=false)→(∃r,W2.heap[l]?=some (.loop r))→body.wpIn (F.inRound l) n P (Vp B W2 I) a' W2) (fun _ _ _=>False))
   { tmps:=(ps.zip args).foldl (fun t (p,v)=>t.setIfInBounds p v) tmps,defers:=[] } W) :
  YieldAt F n P l args W fun e W'=>e=.returned (.bool true)∧∃W3,I W3∧W3.grownBy W' (some l)∧(∃o:Obj,W3.heap[l]?=some o∧o.isCells=false)∧KeepsFrom B W W':=by
 refine ⟨f,_,assign,body,run_yield hl hs,roundIn_of_wpIn hf (wpIn_mono h ?_)⟩;rintro e a' Wa hp;cases e with
 | normal =>
  obtain ⟨hk,hb⟩:=hp;have hla:=hk.same _ _ hB hl rfl;refine ⟨_,run_beginRound hla rfl,?_⟩;have hlt:l<Wa.heap.size:=(Array.getElem?_eq_some_iff.1 hla).1;refine wpIn_mono (hb _ (grownBy_putObj' Wa l _) ⟨_,hla,rfl⟩ ⟨_,World.putObj_heap_same hlt⟩) ?_;rintro e2 a2 W3 hq;cases e2 with
  | normal =>
   obtain ⟨hk3,hi3⟩:=hq;have hl3:=hk3.same _ _ hB (World.putObj_heap_same hlt) rfl;refine ⟨_,_,run_endRound none hl3,rfl,W3,hi3,grownBy_putObj' W3 l _,⟨_,hl3,rfl⟩,?_⟩;have hs3:=hk3.size;have hsa:=hk.size;simp only [World.putObj,Array.size_setIfInBounds] at hs3;refine ⟨by simp only [World.putObj,Array.size_setIfInBounds];omega,fun k o hB' ho hc=>?_⟩
   by_cases hkl:k=l
   ·subst hkl
    rw [hl] at ho;cases ho;exact World.putObj_heap_same (Array.getElem?_eq_some_iff.1 hl3).1
   ·exact (World.putObj_heap_other (fun e=>hkl e)).trans (hk3.same k o hB' ((World.putObj_heap_other (fun e=>hkl e)).trans (hk.same k o hB' ho hc)) hc)
  | _=>exact hq.elim
 | _=>exact hp.elim
def ziC {σ:Type} (F:Fence) (n:Nat) (P:Program) (g:Nat) (lb:Array Value) (S:Nat→Prop) (s0:σ) (Y:σ→World→Array Value→σ→World→Prop) (T:σ→Prop) (w:World):Prop :=
 ∀(l:Nat) (J:σ→World→Prop) (W:World),(∀s W', J s W'→KB S w W') →
  (∀s s' args W0 W1,J s W0→Below W0.heap.size W0 W1→Y s W0 args s' W1→YieldAt F (n-1) P l args W1 fun e W'=>e=.returned (.bool true)∧J s' W') →
  J s0 W→CallsIn F n P g (#[.func (.yield l) #[] #[]]++lb) W fun e W'=>(∃v,e=.returned v)∧∃s W2,T s∧J s W2∧Below W2.heap.size W2 W'
theorem ziC.inRound {σ:Type} {g:Nat} {lb:Array Value} {S:Nat→Prop} {s0:σ} {Y:σ→World→Array Value→σ→World→Prop} {T:σ→Prop} {w:World} (l:Nat) (h:ziC F n P g lb S s0 Y T w):ziC (F.inRound l) n P g lb S s0 Y T w:=h
theorem qO {B:Nat} {W W':World} (h:Below W.heap.size W W'):KeepsFrom B W W':=zB h
theorem jS {σ:Type} {g:Operand} {ps:Array Tmp} {assign body:Code} {Q:Exit→Act→World→Prop} {a:Act} {w:World}
  (hro:F.round=none) (h1:1≤n) {gf:Nat} {lb:Array Value} (hg:a.eval g=.func (.func gf) #[] lb) (hFg:F.fn gf) (eg:∀args w,(callFunc gf args).run P w=.ok (.enter gf args) w)
  {S:Nat→Prop} {s0:σ} {Y:σ→World→Array Value→σ→World→Prop} {T:σ→Prop} (hseq:ziC F (n-1) P gf lb S s0 Y T w) (hps:∀s W0 args s' W1,Y s W0 args s' W1→args.size=ps.size)
  (I:σ→World→Prop) (hIK:∀s W,I s W→KB S w W) (hI:∀s W W' row,I s W→W.grownBy W' row→(∀r,row=some r→w.heap.size≤r∧∃o:Obj,W.heap[r]?=some o∧o.isCells=false)→I s W') (hIB:∀s W W', I s W→Below W.heap.size W W'→I s W') (h0:I s0 w)
  (hround:∀(l:Nat) (s s':σ) (args:Array Value) (W0 W1:World),w.heap.size≤l→I s W0→(∃r,W0.heap[l]?=some (.loop r))→Below W0.heap.size W0 W1→Y s W0 args s' W1 →
   assign.wpIn (F.inRound l) (n-1-1) P (Exit.then (fun a' Wa=>KeepsFrom w.heap.size W1 Wa∧∀W2,Wa.grownBy W2 (some l)→(∃o:Obj,Wa.heap[l]?=some o∧o.isCells=false)→(∃r,W2.heap[l]?=some (.loop r))→body.wpIn (F.inRound l) (n-1-1) P (Vp w.heap.size W2 (I s')) a' W2) (fun _ _ _=>False))
    { tmps:=(ps.zip args).foldl (fun t (p,v)=>t.setIfInBounds p v) a.tmps,defers:=[] } W1)
  (hdone:∀(D:Nat) (s:σ) (W:World),w.heap.size≤D→T s→I s W→W.heap[D]?=some (.deferred (some []))→Q .normal { a with defers:={ target:=.collected D,args:=#[] }::a.defers } W) :
  (Code.rangeFunc g ps assign body).wpIn F n P Q a w:=by
 refine wpIn_rangeFunc fun fn hfn=>?_;rw [hro];obtain ⟨rc,hrc⟩:∃rc:Loop,rc={ state:=.ready,pending:=none,fn,tmps:=a.tmps,params:=ps,assign,body,defers:=w.heap.size }:=⟨_,rfl⟩
 obtain ⟨W1,hW1⟩:=zc ((w.alloc (.deferred (some []))).alloc (.loop rc))
 have hL1:W1.heap[w.heap.size+1]?=some (.loop rc):=by
  exact Xa0
 have hD1:W1.heap[w.heap.size]?=some (.deferred (some [])):=by
  exact Xbn
 have hI1:I s0 W1:=by
  exact XbC
 refine ⟨w.heap.size+1,[{ target:=.collected w.heap.size,args:=#[] }],W1,{ target:=.fn (.func gf) lb,args:=#[.func (.yield (w.heap.size+1)) #[] #[]] },W1,gf,
  #[.func (.yield (w.heap.size+1)) #[] #[]]++lb,W1,?_,?_,?_,?_,fun _=>h1,?_⟩
 ·rw [←hW1,hrc];exact run_enterLoop_outer _ _ _ _ _
 ·simp only [resolve,hg]
  simp [go_sem]
 ·intro f' hf';simp [Target.leads] at hf';subst hf';exact hFg
 ·simp [invoke,go_sem,eg]
 ·refine (hseq (w.heap.size+1) (fun s W=>I s W∧W.heap[w.heap.size+1]?=some (.loop rc)∧W.heap[w.heap.size]?=some (.deferred (some []))) W1 (fun s W h=>hIK _ _ h.1) ?_ ⟨hI1,hL1,hD1⟩).mono ?_
  ·rintro s s' args W0 Wy ⟨hi,hl,hd⟩ hb hy
   have hl0:w.heap.size+1<W0.heap.size:=(Array.getElem?_eq_some_iff.1 hl).1;have hly:=(hb.block _ hl0).trans hl;have hdy:=(hb.block _ (by omega:w.heap.size<W0.heap.size)).trans hd;have hr:=hround (w.heap.size+1) s s' args W0 Wy (by omega) hi ⟨_,hl⟩ hb hy;obtain ⟨fn', t', as', bo', hyy,hR⟩:=Vg hfn (by rw [hly,hrc]) (hps _ _ _ _ _ hy) (show w.heap.size≤w.heap.size+1 by omega) hr
   refine ⟨fn', t', as', bo', hyy,hR.mono ?_⟩;rintro e W' ⟨rfl,W3,hi3,hg3,ho3,hk⟩;refine ⟨rfl,hI _ _ _ _ hi3 hg3 (fun r e=>by cases e;exact ⟨by omega,ho3⟩),hk.same _ _ (by omega) hly rfl,hk.same _ _ (Nat.le_refl _) hdy rfl⟩
  ·rintro e W' ⟨⟨v,rfl⟩,s,W2,hT,⟨hi,hl,hd⟩,hb⟩
   have hl0:w.heap.size+1<W2.heap.size:=(Array.getElem?_eq_some_iff.1 hl).1;have hly:=(hb.block _ hl0).trans hl;have hdy:=(hb.block _ (by omega:w.heap.size<W2.heap.size)).trans hd;refine ⟨none,_,by have:=run_endLoop (P:=P) hly (by rw [hrc];simp);rw [hrc] at this;exact this,?_⟩;exact hdone _ s _ (Nat.le_refl _) hT (hI _ _ _ _ (hIB _ _ _ hi hb) (grownBy_putObj' _ _ _) (fun r e=>by cases e;exact ⟨by omega,_,hly,rfl⟩)) ((World.putObj_heap_other (by omega)).trans hdy)
theorem zdI {σ:Type} {g:Operand} {ps:Array Tmp} {assign body:Code} {Q:Exit→Act→World→Prop} {a:Act} {w:World} {l0:Nat} {r0:Loop}
  (hro:F.round=some l0) (hl0:w.heap[l0]?=some (.loop r0)) (h1:1≤n) {gf:Nat} {lb:Array Value} (hg:a.eval g=.func (.func gf) #[] lb) (hFg:F.fn gf) (eg:∀args w,(callFunc gf args).run P w=.ok (.enter gf args) w)
  {S:Nat→Prop} {s0:σ} {Y:σ→World→Array Value→σ→World→Prop} {T:σ→Prop} (hseq:ziC F (n-1) P gf lb S s0 Y T w) (hps:∀s W0 args s' W1,Y s W0 args s' W1→args.size=ps.size)
  (I:σ→World→Prop) (hIK:∀s W,I s W→KB S w W) (hI:∀s W W' row,I s W→W.grownBy W' row→(∀r,row=some r→w.heap.size≤r∧∃o:Obj,W.heap[r]?=some o∧o.isCells=false)→I s W') (hIB:∀s W W', I s W→Below W.heap.size W W'→I s W') (h0:I s0 w)
  (hround:∀(l:Nat) (s s':σ) (args:Array Value) (W0 W1:World),w.heap.size≤l→I s W0→(∃r,W0.heap[l]?=some (.loop r))→Below W0.heap.size W0 W1→Y s W0 args s' W1 →
   assign.wpIn (F.inRound l) (n-1-1) P (Exit.then (fun a' Wa=>KeepsFrom w.heap.size W1 Wa∧∀W2,Wa.grownBy W2 (some l)→(∃o:Obj,Wa.heap[l]?=some o∧o.isCells=false)→(∃r,W2.heap[l]?=some (.loop r))→body.wpIn (F.inRound l) (n-1-1) P (Vp w.heap.size W2 (I s')) a' W2) (fun _ _ _=>False))
    { tmps:=(ps.zip args).foldl (fun t (p,v)=>t.setIfInBounds p v) a.tmps,defers:=[] } W1)
  (hdone:∀(s:σ) (W:World),T s→I s W→Q .normal a W) :
  (Code.rangeFunc g ps assign body).wpIn F n P Q a w:=by
 refine wpIn_rangeFunc fun fn hfn=>?_;rw [hro];obtain ⟨rc,hrc⟩:∃rc:Loop,rc={ state:=.ready,pending:=none,fn,tmps:=a.tmps,params:=ps,assign,body,defers:=r0.defers }:=⟨_,rfl⟩
 obtain ⟨W1,hW1⟩:=zc (w.alloc (.loop rc));have hL1:W1.heap[w.heap.size]?=some (.loop rc):=by rw [←hW1];exact World.alloc_heap_new w _
 have hI1:I s0 W1:=by
  rw [←hW1];exact hI _ _ _ none h0 (World.grownBy_alloc w _ none) (fun r e=>by cases e)
 refine ⟨w.heap.size,[],W1,{ target:=.fn (.func gf) lb,args:=#[.func (.yield w.heap.size) #[] #[]] },W1,gf,
  #[.func (.yield w.heap.size) #[] #[]]++lb,W1,?_,?_,?_,?_,fun _=>h1,?_⟩
 ·rw [←hW1,hrc];exact run_enterLoop_inner hl0 _ _ _ _ _
 ·simp only [resolve,hg]
  simp [go_sem]
 ·intro f' hf';simp [Target.leads] at hf';subst hf';exact hFg
 ·simp [invoke,go_sem,eg]
 ·refine (hseq w.heap.size (fun s W=>I s W∧W.heap[w.heap.size]?=some (.loop rc)) W1 (fun s W h=>hIK _ _ h.1) ?_ ⟨hI1,hL1⟩).mono ?_
  ·rintro s s' args W0 Wy ⟨hi,hl⟩ hb hy
   have hlt:w.heap.size<W0.heap.size:=(Array.getElem?_eq_some_iff.1 hl).1;have hly:=(hb.block _ hlt).trans hl;have hr:=hround w.heap.size s s' args W0 Wy (Nat.le_refl _) hi ⟨_,hl⟩ hb hy;obtain ⟨fn', t', as', bo', hyy,hR⟩:=Vg hfn (by rw [hly,hrc]) (hps _ _ _ _ _ hy) (Nat.le_refl w.heap.size) hr;refine ⟨fn', t', as', bo', hyy,hR.mono ?_⟩;rintro e W' ⟨rfl,W3,hi3,hg3,ho3,hk⟩;exact ⟨rfl,hI _ _ _ _ hi3 hg3 (fun r e=>by cases e;exact ⟨Nat.le_refl _,ho3⟩),hk.same _ _ (Nat.le_refl _) hly rfl⟩
  ·rintro e W' ⟨⟨v,rfl⟩,s,W2,hT,⟨hi,hl⟩,hb⟩
   have hlt:w.heap.size<W2.heap.size:=(Array.getElem?_eq_some_iff.1 hl).1;have hly:=(hb.block _ hlt).trans hl;refine ⟨none,_,by have:=run_endLoop (P:=P) hly (by rw [hrc];simp);rw [hrc] at this;exact this,?_⟩;exact hdone s _ hT (hI _ _ _ _ (hIB _ _ _ hi hb) (grownBy_putObj' _ _ _) (fun r e=>by cases e;exact ⟨Nat.le_refl _,_,hly,rfl⟩))
end
section
attribute [local go_sem] Oper.semAt_some
def zlE (g:Nat):Value:=.func (.func 124) #[] #[.pointer (some ⟨g,0,none⟩)]
def qz (c:Nat) (l:List Num) (k:Nat):List Num:=(l.drop (k*c)).take c
theorem vT (r c:Nat) (A:Option Addr) (n cp:Nat) (w:World):Calls Tryz.prog 93 #[zE r c A n cp] w fun e w'=>e=.returned (zlE w.heap.size)∧w.alloc (.cells #[.int .i64 (r:Int),.int .i64 (c:Int),.slice A n cp] 65)=w':=by
 have hu:=Tryz.underlying65;unfold zE;go_enter Tryz.func93,Tryz.ntmps93;go_wp2;go_ret;exact ⟨rfl,rfl⟩
def V3 (r c:Nat) (l:List Num) (k:Nat) (W0:World) (args:Array Value) (s:Nat) (W1:World):Prop:=k<r∧s=k+1∧∃v,args=#[.int .i64 (k:Int),v]∧zH W1 W0.heap.size v (qz c l k)
theorem V3.size {r c:Nat} {l:List Num}:∀k W0 args s W1,V3 r c l k W0 args s W1→args.size=2:=by
 rintro k W0 args s W1 ⟨_,_,v,rfl,_⟩;rfl
theorem zlf (m:Nat) (S:Nat→Prop) (g r c:Nat) (A:Option Addr) (n cp:Nat) (l:List Num) (hs:zt r c l) (W:World) (hc:∀W', KB S W W'→At W' g 65 #[.int .i64 (r:Int),.int .i64 (c:Int),.slice A n cp]) (hl:∀W', KB S W W'→zk W' A n cp l)
  (lp:Nat) (J:Nat→World→Prop) (hJ:∀s W', J s W'→KB S W W')
  (hY:∀s s' args W0 W1,J s W0→Below W0.heap.size W0 W1→V3 r c l s W0 args s' W1→YieldAt Fence.wide (m+1) Tryz.prog lp args W1 fun e W'=>e=.returned (.bool true)∧J s' W') (V:World) (h0:J 0 V) :
  CallsIn Fence.wide (m+2) Tryz.prog 124 (#[.func (.yield lp) #[] #[]]++#[.pointer (some ⟨g,0,none⟩)]) V fun e W'=>(∃v,e=.returned v)∧∃s W2,s=r∧J s W2∧Below W2.heap.size W2 W':=by
 have hu:=Tryz.underlying65;have R:=za (fun (W:World) (hl:zk W A n cp l)=>show Calls Tryz.prog 119 #[zE r c A n cp] W fun e w'=>e=.returned (.bool true)∧Below W.heap.size W w' from by have:=qI r c A n cp W;rw [hs.right hl.1] at this;exact this);have D:=za (fun (k:Nat) (hk:k<r) (W:World) (hl:zk W A n cp l)=>zg4 r c A n cp l hs k hk W hl);have HC:=za hc;have HL:=za hl
 have HJ:=za hJ;have HY:=za hY;have hr16:=hs.r2;clear hc hl hJ hY;unfold zE at R D;refine callsIn_of_wp Tryz.func124 rfl trivial ?_ rfl;simp only [Tryz.ntmps124,List.size_toArray,List.length_cons,List.length_nil,Nat.reduceAdd,Nat.reduceSub,Array.replicate_succ,Array.replicate_zero,List.push_toArray,List.append_toArray,List.nil_append,List.cons_append];gi_wp2
 gi_loopw [3] (fun i wr=>∃k:Nat,k≤r∧i=.int .i64 k∧Hid (J k wr)) (fun i _=>r-(intOf i).toNat)
 case atStart=>exact ⟨0,by omega,rfl,h0⟩
 case round =>
  obtain ⟨k,hk,rfl,hj⟩:=hrel;have kb:=za (HJ.out _ _ hj.out);obtain ⟨m0,m1,m2⟩:=(HC.out _ kb.out).three;gi_wp2_with fail;refine ⟨trivial,(zw (m+1) (R.out wr (HL.out _ kb.out))).mono ?_⟩;rintro e w1 ⟨rfl,hb1⟩;have B1:=za hb1;have gl:=za (show g<wr.heap.size from World.block_lt_of_cell? wr ⟨g,0,none⟩ m0);obtain ⟨n0,n1,n2⟩:=((HC.out _ kb.out).below hb1).three;have hl1:=za ((HL.out _ kb.out).below hb1)
  clear m0 m1 m2 hb1
  by_cases hlt:k<r
  ·have hlt':(k:Int)<(r:Int):=by omega
   gi_wp2_with fail;refine ⟨trivial,(zw (m+1) (D.out k hlt w1 hl1.out)).mono ?_⟩;rintro e w2 ⟨A2,d2,c2,rfl,ho2,hb2⟩;have hb:=za (B1.out.trans (hb2.mono B1.out.size));have hy:=za (HY.out k (k+1) _ wr w2 hj.out hb.out ⟨hlt,rfl,_,rfl,jW ho2 B1.out.size⟩);clear ho2 hb2;obtain ⟨fn,tmps,assign,body,hyy,hR⟩:=hy.out;gi_wp2_with fail;refine hR.mono ?_;rintro e W3 ⟨rfl,hJ3⟩;have HJ3:=za hJ3
   clear hJ3;gi_wp2_with fail;go_roundw
   case rel=>exact ⟨k+1,by omega,by go_num,HJ3⟩
   case measure=>simp [intOf];omega
  ·obtain rfl:k=r:=by omega
   gi_wp2_with fail
   go_end0
   exact ⟨⟨_,rfl⟩,_,wr,rfl,hj.out,B1.out⟩
theorem y9 (m:Nat) (S:Nat→Prop) (g r c:Nat) (A:Option Addr) (n cp:Nat) (l:List Num) (hs:zt r c l) (w:World) (hg:S g) (hc:At w g 65 #[.int .i64 (r:Int),.int .i64 (c:Int),.slice A n cp]) (hl:∀W', KB S w W'→zk W' A n cp l) :
  ziC Fence.wide (m+2) Tryz.prog 124 #[.pointer (some ⟨g,0,none⟩)] S 0 (V3 r c l) (fun s=>s=r) w:=fun lp J W hJ hY h0 =>
 zlf m S g r c A n cp l hs w (fun W' h=>h.at_ hg hc) hl lp J hJ hY W h0
end
section
attribute [local go_sem] Oper.semAt_some ve
theorem jD.grown {S:Nat→Prop} {W0 W W':World} {go:Nat} {ys:List Num} {v:Value} {row:Option Nat} (h:jD S W0 go ys v W) (hS:∀k,S k→k<W0.heap.size) (hgr:W.grownBy W' row) (hr:∀r,row=some r→W0.heap.size≤r∧∃o:Obj,W.heap[r]?=some o∧o.isCells=false):jD S W0 go ys v W' :=
 ⟨qf h.box hgr (fun r e=>(hr r e).2),j7 h.own hgr (fun r e=>(hr r e).2),YU h.kb hS (Nat.le_refl _) hgr (fun r e=>(hr r e).1)⟩
theorem jD.below {S:Nat→Prop} {W0 W W':World} {go:Nat} {ys:List Num} {v:Value} (h:jD S W0 go ys v W) (hS:∀k,S k→k<W0.heap.size) (hb:Below W.heap.size W W'):jD S W0 go ys v W' :=
 ⟨h.box.below hb,h.own.below hb,h.kb.call hS hb⟩
theorem yw (args:Array Value) (W:World):(callFunc 124 args).run Tryz.prog W=.ok (.enter 124 args) W:=enters_of Tryz.func124 (by kernel_rfl) rfl args W
theorem zk.drew {W:World} {A:Option Addr} {n c:Nat} {xs:List Num} (h:zk W A n c xs):zk W.drew A n c xs:=h.below ⟨rfl,rfl,rfl,Nat.le_refl _,fun _ _=>rfl⟩
def zjZ (ys:List Num) (w:World) (e:Ending) (w':World):Prop:=∃A n c,e=.returned (.tuple #[.slice A n c,.bool true])∧zH w' w.heap.size (.slice A n c) ys∧Below w.heap.size w w'
def jO (r c:Nat) (l xs:List Num):List Num:=(List.range r).map fun i=>Zf (qz c l i) xs
theorem za4 (r c:Nat) (l xs:List Num):jO (r+1) c l xs=jO r c l xs++[Zf (qz c l r) xs]:=by unfold jO;rw [List.range_succ];simp
theorem yO (r c:Nat) (l xs:List Num):(jO r c l xs).length=r:=by simp [jO]
theorem zai (r c : Nat) (A : Option Addr) (n cp : Nat) (l : List Num) (hs : zt r c l) (A' : Option Addr) (m' c' : Nat) (xs : List Num) (hm : m' = c) (w : World) (hl : zk w A n cp l) (hx : zk w A' m' c' xs) : Calls Tryz.prog 150 #[zE r c A n cp, .slice A' m' c'] w (zjZ (jO r c l xs) w) := by
 have hu := Tryz.underlying65;have hu1 := Tryz.underlying71;have R := za (show ∀ W, Calls Tryz.prog 119 #[zE r c A n cp] W fun e w' => e = .returned (.bool true) ∧ Below W.heap.size W w' from fun W => by have := qI r c A n cp W; rw [hs.right hl.1] at this; exact this);have AL := za (fun W => vT r c A n cp W);have HL := za hl;have HX := za hx;have lx := hl.1;have lxs := hx.1;have hln : n ≤ 256 := by rw [← lx, hs.len]; exact hs.prod
 have hr16 := hs.r2;have hc16 := hs.c2;subst hm;clear hl hx;unfold zE at R AL ⊢;refine (callsIn_wide (n := 9)).1 ?_;refine callsIn_of_wp_marks Tryz.func150 rfl trivial ?_ rfl;simp only [Tryz.ntmps150, List.size_toArray, List.length_cons, List.length_nil, Nat.reduceAdd, Nat.reduceSub, Array.replicate_succ, Array.replicate_zero, List.push_toArray, List.append_toArray, List.nil_append, List.cons_append]
 gi_wp2_with fail;have A0 := za ((At.new w 65 #[.int .i64 (r : Int), .int .i64 (m' : Int), .slice A n cp]).alloc (.cells #[.slice A' m' c'] 63));have A1 := za (At.new (w.alloc (.cells #[.int .i64 (r : Int), .int .i64 (m' : Int), .slice A n cp] 65)) 63 #[.slice A' m' c']);have B0 := za (zg (zg (Below.refl w.heap.size w) (.cells #[.int .i64 (r : Int), .int .i64 (m' : Int), .slice A n cp] 65)) (.cells #[.slice A' m' c'] 63))
 obtain ⟨W0, hW0⟩ := zc (((w.alloc (.cells #[.int .i64 (r : Int), .int .i64 (m' : Int), .slice A n cp] 65)).alloc (.cells #[.slice A' m' c'] 63)));simp only [World.size_alloc] at A1;have hWg := za (show W0.heap.size = w.heap.size + 2 by rw [← hW0]; simp);rw [hW0] at A0 A1 B0 ⊢;clear hW0;obtain ⟨g, hg⟩ := zc (w.heap.size);rw [hg] at A0 A1 B0 hWg
 try simp only [hg]
 refine (zw 8 (R.out W0)).mono ?_;rintro e w1 ⟨rfl, hb1⟩;obtain ⟨m0, m1, m2⟩ := (A0.out.below hb1).three;have x0 := (A1.out.below hb1).cell 0;have B1 := za (zq B0.out (by rw [hWg.out]; omega) hb1);have A0' := za (A0.out.below hb1);have A1' := za (A1.out.below hb1);have hs1 := za hb1.size;clear hb1;obtain ⟨k0, k1, k2⟩ := (A0'.out.alloc (.cells #[.slice none 0 0] 63)).three;gi_wp2_with fail;refine (zw 8 (AL.out _)).mono ?_
 rintro e w2 ⟨rfl, rfl⟩;have C0 := za ((At.new w1 63 #[.slice none 0 0]).alloc (.cells #[.int .i64 (r : Int), .int .i64 (m' : Int), .slice A n cp] 65));have C1 := za (At.new (w1.alloc (.cells #[.slice none 0 0] 63)) 65 #[.int .i64 (r : Int), .int .i64 (m' : Int), .slice A n cp]);have D0 := za (zg (zg (Below.refl w1.heap.size w1) (.cells #[.slice none 0 0] 63)) (.cells #[.int .i64 (r : Int), .int .i64 (m' : Int), .slice A n cp] 65))
 obtain ⟨V0, hV0⟩ := zc (((w1.alloc (.cells #[.slice none 0 0] 63)).alloc (.cells #[.int .i64 (r : Int), .int .i64 (m' : Int), .slice A n cp] 65)));simp only [World.size_alloc] at C1;have hV := za (show V0.heap.size = w1.heap.size + 2 by rw [← hV0]; simp);rw [hV0] at C0 C1 D0 ⊢;clear hV0;obtain ⟨h, hh⟩ := zc (w1.heap.size);rw [hh] at C0 C1 D0 hV
 try simp only [hh]
 simp only [World.size_alloc];simp only [hh];have B2 := za (zq B1.out (by have := hs1.out; rw [hWg.out] at this; omega) (by rw [hh]; exact D0.out));have A1'' := za (A1'.out.below (by rw [hh]; exact D0.out));clear m0 m1 m2 x0 k0 k1 k2 R;have hgh : g + 2 ≤ h := by have := hs1.out; rw [hWg.out, hh] at this; exact this
 obtain ⟨S, hSd⟩ : ∃ S : Nat → Prop, S = fun k => k < V0.heap.size ∧ k ≠ h := ⟨_, rfl⟩
 have hsz := hV.out;have hS : ∀ k, S k → k < V0.heap.size := fun k h => by rw [hSd] at h; exact h.1
 have hSo : ¬ S h := fun h => by rw [hSd] at h; exact h.2 rfl
 have hSi : ∀ k, k < V0.heap.size → k ≠ h → S k := fun k h1 h2 => by rw [hSd]; exact ⟨h1, h2⟩
 clear hSd;have hBw : Below w.heap.size w V0 := by rw [hg]; exact B2.out
 have hSw : ∀ k, k < w.heap.size → S k := fun k hk => hSi k (by rw [hsz]; omega) (by omega);gi_wp2_with fail
 refine jS rfl (by decide) (gf := 124) (lb := #[.pointer (some ⟨h + 1, 0, none⟩)]) rfl trivial yw
  (y9 6 S (h + 1) r m' A n cp l hs V0 (hSi _ (by omega) (by omega)) C1.out (fun W' k => k.nums HL.out hBw hSw)) (fun s W0 args s' W1 h => (V3.size _ _ _ _ _ h).trans rfl)
  (fun k W => ∃ v, jD S V0 h (jO k m' l xs) v W) (fun _ _ ⟨_, k⟩ => k.kb) (fun _ _ _ _ ⟨v, k⟩ hgr hr => ⟨v, k.grown hS hgr hr⟩) (fun _ _ _ ⟨v, k⟩ hb => ⟨v, k.below hS hb⟩)
  ⟨.slice none 0 0, C0.out, zH.nil_ _ _, KB.refl S V0⟩ ?round ?done
 case round =>
  rintro lp k k' args V1 V2 hlp ⟨v, hv⟩ ⟨rl, hrl⟩ hb ⟨hkr, rfl, row, rfl, hrow⟩;have H1 := za (hv.below hS hb);have HR := za hrow;obtain ⟨ra, rn, rc, rfl⟩ := zS hrow;clear hv hrow;gi_wp2_with fail;refine ⟨KeepsFrom.refl _ _, fun W2 hgr ho _ => ?_⟩;have H2 := za (H1.out.grown hS hgr (fun r e => by cases e; exact ⟨hlp, ho⟩));have HR2 := za (j7 HR.out hgr (fun r e => by cases e; exact ho)).nums;have hrn : rn ≤ 1000 := by have := zL HR.out; unfold qz at this; rw [List.length_take] at this; omega
  have HD := za (fun (W : World) (h1 : zk W ra rn rc (qz m' l k)) (h2 : zk W A' m' c' xs) => Zm ra A' rn rc m' c' _ xs hrn (by omega) W h1 h2);have HX2 := za (H2.out.kb.nums HX.out hBw hSw);obtain ⟨rr, hrr⟩ := zc (Zf (qz m' l k) xs);have HRR := za hrr;simp only [hrr] at HD;obtain ⟨L, hL⟩ := zc (jO k m' l xs);have HLE := za hL;have HLL := za (show L.length ≤ 1000 by rw [← hL, yO]; omega);rw [hL] at H2
  obtain ⟨rv, rl, rh, rb⟩ := rr;have y0 := (H2.out.kb.at_ (hSi (g + 1) (by omega) (by omega)) A1''.out).cell 0;have o0 := H2.out.box.cell 0;have hgo : some h ≠ v.ownBlock := fun e => by have := (World.ownsRow.lt H2.out.own h e.symm).1; omega
  have hg1 : some (g + 1) ≠ v.ownBlock := fun e => by have := (World.ownsRow.lt H2.out.own (g + 1) e.symm).1; omega
  have hn : ∀ q, some q ≠ v.ownBlock → q ∉ v.ownBlock.toList := fun q h => by cases e : v.ownBlock with
   | none => simp
   | some z => rw [e] at h; simpa using fun hq => h (by rw [hq])
  clear hL hrr ho hgr H1 HR;gi_wp2;refine jV (by kernel_rfl) (by kernel_rfl) (by rintro ⟨a, w, h⟩; exact h) (jH v.ownBlock.toList [0, 1, 2] [3, 4, 5, 6] (.cons rfl (.cons rfl (.cons rfl .nil))) (.cons rfl (.cons rfl (.cons rfl (.cons rfl .nil)))) (by kernel_rfl) (fun c a d v w h => h) ?_);have ky0 := fun x => But.cell y0 (hn _ hg1) x;have ko0 := fun x => But.cell o0 (hn _ hgo) x
  repeat (go_big_quiet_step (fail))
  refine wpQuiet_nil ?_;clear ky0 ko0;refine zp rfl (fun K hK => ?_);go_simp;refine (HD.out _ HR2.out.drew HX2.out.drew).mono ?_;rintro e w3 ⟨rfl, hb3⟩;replace hb3 := qi hb3;refine hK _ _ (zI ((zC.refl _ _).call hb3)) ?_;clear hK K;refine zp rfl (fun K hK => ?_);go_simp;refine hK _ _ (zI (((zC.refl _ _).call hb3).alloc _)) ?_;clear hK K;refine zp rfl (fun K hK => ?_);have hsW := H2.out.kb.size;refine jZ (.tmp 23) (.tmp 27) rfl V0.heap.size v L ⟨rv, rl, rh, rb⟩ _ rfl ((H2.out.own.below hb3).alloc _) rfl (At.new' (by simp)) HLL.out (by have := hb3.size; simp; omega) ?_
  intro g1 cc1 w4 hown4 hgrow4 hat4 hg1';refine hK _ _ (zI ((((zC.refl _ _).call hb3).alloc _).grown hgrow4 (fun k e => .inl (qR k e)))) ?_;clear hK K;have hbx := za ((((H2.out.box.below hb3).alloc _).grown hgrow4 hgo));have e0 := hbx.out.cell 0;have z0 := hbx.out.frozen 0;have hrowS : ∀ k, v.ownBlock = some k → ¬ S k := fun k e hk => by have := (World.ownsRow.lt H2.out.own k e).1; have := hS k hk; omega
  have hSW : ∀ k, S k → k < W2.heap.size := fun k hk => Nat.lt_of_lt_of_le (hS k hk) hsW;have hkf := za ((zB (B := V0.heap.size) hb3).trans ((zB (zg (Below.refl _ _) _)).trans (jF ((H2.out.own.below hb3).alloc _) hgrow4)));have hkb := za (((((KB.refl S W2).call hSW hb3).call hSW (zg (Below.refl _ _) _)).grown hSW hgrow4 hrowS));have HO := za hown4;clear hown4 hgrow4 hat4 hb3;refine zZ rfl (fun K hK => ?_)
  go_simp;refine hK _ _ ?_;clear hK K;refine ⟨hkf.out.trans (zV _ _ _ _), .slice (some ⟨g1, 0, none⟩) (L.length + 1) cc1, hbx.out.set 0 _ rfl, ?_, (H2.out.kb.trans hkb.out).set hSo _ _⟩;rw [za4, HLE.out, HRR.out];exact HO.out.kept (grownBy_setCell' _ _ _) (.inr (by simp [Value.ownBlock]; omega))
 case done =>
  rintro D s W hD rfl ⟨v, hv⟩ hK;have e0 := hv.box.cell 0;have HK := za hK;have H := za hv;have hD' := za hD;clear hv hK hD;gi_wp2;refine ⟨by simp, .inl ⟨_, _, rfl, run_takeDeferred HK.out, ?_⟩⟩;obtain ⟨A1, n1, c1, rfl⟩ := zS H.out.own;have hg0 : g ≤ V0.heap.size := by omega
  refine ⟨_, (by simp [results, Tryz.results150, go_sem]), A1, n1, c1, rfl, QV (jW H.out.own (by rw [hg]; exact hg0)) _ HK.out rfl, ?_⟩;rw [hg];exact qu (B2.out.trans (H.out.kb.below (fun k hk => hSi k (by omega) (by omega)))) (Nat.le_trans hg0 H.out.kb.size) (Nat.le_trans hg0 hD'.out) _
end
end Go.Proofs.YtcoiklclbljjeaaGreatDoor.L
