/- Lemmas of the card's proof. -/
import Derived.Test.YtcoiklclbljjeaaGreatDoorM19
set_option linter.unusedVariables false
set_option linter.unusedSimpArgs false
set_option maxRecDepth 100000
set_option maxHeartbeats 16000000
namespace Go.Proofs.YtcoiklclbljjeaaGreatDoor.L
open Go.RowKit
section
structure j4 (G:List Nat) (p:World→Prop) (W:World):Prop where
 low:∀q,q∈G→q<W.heap.size
 all:∀W', zD G W W'→p W'
section
variable {G H:List Nat} {p q:World→Prop} {W W' w:World} {S:Nat→Prop}
theorem j4.out (h:j4 G p W):p W:=h.all W (zD.refl _ _)
theorem j4.touch (h:j4 G p W) (k:zD G W W'):j4 G p W':=⟨fun q hq=>Nat.lt_of_lt_of_le (h.low q hq) k.size,fun X hX=>h.all X (k.trans hX)⟩
theorem j4.call (h:j4 G p W) (k:Below W.heap.size W W'):j4 G p W':=h.touch (zD.of_below k)
theorem j4.only (h:j4 G p W) {g:Nat} (k:z7 g W W') (hg:g∈G):j4 G p W':=h.touch (k.touch hg)
theorem j4.plus (h:j4 G p W) (k:∀X,zD G W X→q X):j4 G (fun X=>p X∧q X) W:=⟨h.low,fun X hX=>⟨h.all X hX,k X hX⟩⟩
theorem j4.grow (h:j4 G p W) (t:zD G W W') (hH:∀q,q∈H→q∈G∨W.heap.size≤q) (hl:∀q,q∈H→q<W'.heap.size) (hG:∀q,q∈G→q∈H):j4 H p W' :=
 ⟨hl,fun X hX=>h.all X ⟨hX.os.trans t.os,hX.tape.trans t.tape,hX.output.trans t.output,Nat.le_trans t.size hX.size,fun k hk hn=>(hX.block k (Nat.lt_of_lt_of_le hk t.size) (fun hq=>by rcases hH k hq with h1|h1;exact hn h1;omega)).trans (t.block k hk hn)⟩⟩
theorem j4.mk0 (hl:∀q,q∈G→q<W.heap.size) (k:∀X,zD G W X→q X):j4 G q W:=⟨hl,k⟩
theorem zD.of_kb (k:KB S W W') (hS:∀q,q<W.heap.size→q∉G→S q):zD G W W':=⟨k.os,k.tape,k.output,k.size,fun q h1 h2=>k.block q (hS q h1 h2)⟩
theorem j4.kb (h:j4 G p W) (k:KB S W W') (hS:∀q,q<W.heap.size→q∉G→S q):j4 G p W':=h.touch (zD.of_kb k hS)
theorem zk.kp {A:Option Addr} {n c:Nat} {xs:List Num} (h:zk W A n c xs) (hf:∀b o,A=some ⟨b,o,none⟩→0<n→b∉G):∀X,zD G W X→zk X A n c xs :=
 fun X hX=>⟨h.1,h.2.1,fun hn=>by
  obtain ⟨b,o,e,hc⟩:=h.2.2 hn;have hb:=hX.block b (h.low b o e hn) (hf b o e hn);exact ⟨b,o,e,fun k x hk=>by simp only [jb hb];exact hc k x hk⟩⟩
theorem zU.kp {A:Option Addr} {n c:Nat} {xs:List Int} (h:zU W A n c xs) (hf:∀b o,A=some ⟨b,o,none⟩→0<n→b∉G):∀X,zD G W X→zU X A n c xs :=
 fun X hX=>⟨h.1,h.2.1,fun hn=>by
  obtain ⟨b,o,e,hc⟩:=h.2.2 hn;have hb:=hX.block b (h.low b o e hn) (hf b o e hn);exact ⟨b,o,e,fun k x hk=>by simp only [jb hb];exact hc k x hk⟩⟩
theorem At.kp {g:Nat} {t:TypeId} {cs:Array Value} (h:At W g t cs) (hG:g∉G):∀X,zD G W X→At X g t cs:=fun X hX=>(hX.block g h.lt hG).trans h
theorem zi5 {D:Nat} {o:Obj} (h:W.heap[D]?=some o) (hG:D∉G):∀X,zD G W X→X.heap[D]?=some o:=fun X hX=>(hX.block D (Array.getElem?_eq_some_iff.1 h).1 hG).trans h
theorem Below.kp {B:Nat} (h:Below B w W) (hB:B≤W.heap.size) (hG:∀q,q∈G→B≤q):∀X,zD G W X→Below B w X :=
 fun X hX=>h.trans ⟨hX.os,hX.tape,hX.output,hX.size,fun k hk=>hX.block k (by omega) (fun hq=>by have:=hG k hq;omega)⟩
theorem j4.addB (h:j4 G p W) (t:Below W.heap.size W W') (hb:W.heap.size<W'.heap.size):j4 (W.heap.size::G) p W' :=
 h.grow (zD.of_below t) (fun q hq=>by rcases List.mem_cons.1 hq with e|e;exact .inr (Nat.le_of_eq e.symm);exact .inl e) (fun q hq=>by rcases List.mem_cons.1 hq with e|e;rw [e];exact hb;exact Nat.lt_of_lt_of_le (h.low q e) t.size) (fun q hq=>List.mem_cons_of_mem _ hq)
theorem j4.addL (h:j4 G p W) (t:zD G W W') {L:List Nat} (hL:∀q,q∈L→W.heap.size≤q∧q<W'.heap.size):j4 (L++G) p W' :=
 h.grow t (fun q hq=>by rcases List.mem_append.1 hq with e|e;exact .inr (hL q e).1;exact .inl e) (fun q hq=>by rcases List.mem_append.1 hq with e|e;exact (hL q e).2;exact Nat.lt_of_lt_of_le (h.low q e) t.size) (fun q hq=>List.mem_append_right _ hq)
theorem j4.addF (h:j4 G p w) (t:zD G w W) {b:Nat} (hb:w.heap.size≤b) (hb2:b<W.heap.size):j4 (b::G) p W :=
 h.grow t (fun q hq=>by rcases List.mem_cons.1 hq with e|e;exact .inr (by rw [e];exact hb);exact .inl e) (fun q hq=>by rcases List.mem_cons.1 hq with e|e;rw [e];exact hb2;exact Nat.lt_of_lt_of_le (h.low q e) t.size) (fun q hq=>List.mem_cons_of_mem _ hq)
theorem zk.num {g n c:Nat} {xs:List Num} (h:zk W (some ⟨g,0,none⟩) n c xs) {j:Nat} {x:Num} (hx:xs[j]?=some x) :
  W.cell? ⟨g,j*4,none⟩=some (.int .i64 x.v)∧W.cell? ⟨g,j*4+1,none⟩=some (.int .i64 x.l)∧W.cell? ⟨g,j*4+2,none⟩=some (.int .i64 x.h)∧W.cell? ⟨g,j*4+3,none⟩=some (.bool x.bad):=by
 obtain ⟨b,o,e,hc⟩:=h.2.2 (by have:=(List.getElem?_eq_some_iff.1 hx).1;have:=h.1;omega);cases e;have:=hc j x hx
 simpa using this
def Vx (Q:Exit→Act→World→Prop):Exit→Act→World→Prop
 | .panic _,_,_=>False
 | .normal,a,w=>Q .normal a w
 | x,a,w=>Q x a w
theorem zeZ {Q:Exit→Act→World→Prop}:∀x a w,Vx Q x a w→Q x a w:=fun x a w h=>by cases x<;>first|exact h|exact h.elim
theorem Vd {F:Fence} {n:Nat} {P:Program} {id:Nat} {Q:Exit→Act→World→Prop} {a:Act} {w:World} {l:List Oper} (hF:F=Fence.wide) (hm:P.follows .mixedOrders=true) (h:wpAny P .any l.toArray (Vx Q) l.toArray.size (Array.replicate l.toArray.size false) a w.drew):(Code.region id l.toArray true).wpIn F n P Q a w:=by
 subst hF;exact wpIn_mono (JG hm h) zeZ
theorem zD.newO (h:zD G w W) {b:Nat} (k:z7 b W W') (hb:w.heap.size≤b):zD G w W' :=
 ⟨k.os.trans h.os,k.tape.trans h.tape,k.output.trans h.output,by rw [k.size];exact h.size,fun q hq hn=>(k.block q (by omega)).trans (h.block q hq hn)⟩
theorem j4.fresh (h:j4 G p W) {b:Nat} (hb:W.heap.size≤b):b∉G:=fun hq=>by have:=h.low b hq;omega
theorem j4.gotN (h:j4 G p W) (b:Below W.heap.size W W') {A:Option Addr} {n c:Nat} {xs:List Num} (a:zk W' A n c xs) (hf:∀q o,A=some ⟨q,o,none⟩→W.heap.size≤q):j4 G (fun X=>p X∧zk X A n c xs) W':=(h.call b).plus (a.kp fun q o e _=>h.fresh (hf q o e))
theorem j4.gotI (h:j4 G p W) (b:Below W.heap.size W W') {A:Option Addr} {n c:Nat} {xs:List Int} (a:zU W' A n c xs) (hf:∀q o,A=some ⟨q,o,none⟩→W.heap.size≤q):j4 G (fun X=>p X∧zU X A n c xs) W':=(h.call b).plus (a.kp fun q o e _=>h.fresh (hf q o e))
theorem j4.gotO (h:j4 G p W) (b:Below W.heap.size W W') {A:Option Addr} {n c:Nat} {xs:List Num} (a:zH W' W.heap.size (.slice A n c) xs):j4 G (fun X=>p X∧zk X A n c xs) W':=h.gotN b a.nums (zY a)
end
theorem At.kb_ {S:Nat→Prop} {g:Nat} {t:TypeId} {cs:Array Value} {W W':World} (a:At W g t cs) (h:KB S W W') (hg:S g):At W' g t cs:=(h.block g hg).trans a
theorem z7.table {g B k:Nat} {v:Value} {R:List Row} {W W':World} (h:z7 g W W') (t:qy W B v R k) (hv:v.ownBlock≠some g) (hr:∀r,r∈R→r.g≠g):qy W' B v R k :=
 t.same (fun q e=>h.block q (fun e'=>hv (by rw [e,e']))) (fun r hm=>h.block r.g (hr r hm))
theorem KB.table {S:Nat→Prop} {B k:Nat} {v:Value} {R:List Row} {W W':World} (h:KB S W W') (t:qy W B v R k) (hv:∀q,v.ownBlock=some q→S q) (hr:∀r,r∈R→S r.g):qy W' B v R k :=
 t.same (fun q e=>h.block q (hv q e)) (fun r hm=>h.block r.g (hr r hm))
theorem zD.at_ {G:List Nat} {g:Nat} {t:TypeId} {cs:Array Value} {W W':World} (h:zD G W W') (a:At W g t cs) (hg:g∉G):At W' g t cs:=(h.block g a.lt hg).trans a
end
def qt (w:World) (A:Option Addr) (n c:Nat) (xs:List Int):Prop :=
 xs.length=n∧n≤c∧(0<n→∃b o,A=some ⟨b,o,none⟩∧∀k x,xs[k]?=some x→w.cell? ⟨b,o+k,none⟩=some (.int .u8 x))
def IsB (xs:List Int):Prop:=∀x∈xs,0≤x∧x<256
theorem qt.keep {w w':World} {A:Option Addr} {n c:Nat} {xs:List Int} (h:qt w A n c xs) (hk:∀(b i:Nat) v,w.cell? ⟨b,i,none⟩=some v→w'.cell? ⟨b,i,none⟩=some v):qt w' A n c xs :=
 ⟨h.1,h.2.1,fun hn=>by
  obtain ⟨b,o,e,hc⟩:=h.2.2 hn;exact ⟨b,o,e,fun k x hx=>hk _ _ _ (hc k x hx)⟩⟩
theorem qt.below {w w':World} {A:Option Addr} {n c:Nat} {xs:List Int} (h:qt w A n c xs) (hb:Below w.heap.size w w'):qt w' A n c xs:=h.keep (zR hb)
theorem qt.at_ {w:World} {A:Option Addr} {n c:Nat} {xs:List Int} {k:Nat} (h:qt w A n c xs) (hk:k<n):∃b o x,A=some ⟨b,o,none⟩∧xs[k]?=some x∧w.cell? ⟨b,o+k,none⟩=some (.int .u8 x):=by
 exact XaK
def n32 (n:BitVec 32):Int:=(n.toNat:Int)
theorem zi8 (n:BitVec 32):n32 n<4294967296:=by unfold n32;have:=n.isLt;omega
theorem zi9 (n:BitVec 32):0≤n32 n:=by unfold n32;omega
theorem zcz (a b:BitVec 32):bits .xor .u32 (n32 a) (n32 b)=n32 (a ^^^ b):=by
 unfold n32;rw [u32_xor_nat _ _ a.isLt b.isLt,BitVec.toNat_xor]
theorem zjN (a b:BitVec 32):bits .and .u32 (n32 a) (n32 b)=n32 (a &&& b):=by
 unfold n32;rw [u32_and_nat _ _ a.isLt b.isLt,BitVec.toNat_and]
def zcx (c:Int):BitVec 32:=BitVec.ofNat 32 c.toNat
theorem zja {c:Int} (h0:0≤c) (h1:c<256):c%4294967296=n32 (zcx c):=by
 unfold n32 zcx;rw [BitVec.toNat_ofNat];omega
theorem zke (n:BitVec 32) (k:Nat):n32 n / (2^k:Nat)=n32 (n >>> k):=by
 unfold n32;rw [BitVec.toNat_ushiftRight,Nat.shiftRight_eq_div_pow];rfl
def TB:List (BitVec 32):=[0x0#32,0x1db71064#32,0x3b6e20c8#32,0x26d930ac#32,0x76dc4190#32,0x6b6b51f4#32,0x4db26158#32,0x5005713c#32,0xedb88320#32,0xf00f9344#32,0xd6d6a3e8#32,0xcb61b38c#32,0x9b64c2b0#32,0x86d3d2d4#32,0xa00ae278#32,0xbdbdf21c#32]
def Tab (w:World):Prop:=∀i,i<16→w.cell? ⟨0,i,none⟩=some (.int .u32 (n32 (TB.getD i 0)))
theorem Tab.keep {w w':World} (h:Tab w) (hk:∀(b i:Nat) v,w.cell? ⟨b,i,none⟩=some v→w'.cell? ⟨b,i,none⟩=some v):Tab w':=fun i hi=>hk _ _ _ (h i hi)
theorem Tab.below {w w':World} (h:Tab w) (hb:Below w.heap.size w w'):Tab w':=h.keep (zR hb)
def nib (n:BitVec 32):BitVec 32:=TB.getD (n &&& 15#32).toNat 0 ^^^ (n >>> 4)
def V8 (n:BitVec 32):List Int→BitVec 32
 | []=>n
 | c::l=>V8 (nib (nib (n ^^^ zcx c))) l
def zdZ:BitVec 32:=4294967295#32
def V7 (n:BitVec 32) (l:List Int):BitVec 32:=zdZ ^^^ V8 (zdZ ^^^ n) l
def Qt (l:List Int):BitVec 32:=V7 0#32 l
theorem zgZ (n:BitVec 32):bits .xor .u32 4294967295 (n32 n)=n32 (zdZ ^^^ n):=zcz zdZ n
theorem y6 {w:World} (hT:Tab w) (n:BitVec 32):∃(k:Nat) (t:Int),bits .and .u32 (n32 n) 15=(k:Int)∧k<16∧w.cell? ⟨0,k,none⟩=some (.int .u32 t)∧bits .xor .u32 t (n32 n / 16)=n32 (nib n):=by
 have hlow:(n &&& 15#32).toNat<16:=by
  rw [BitVec.toNat_and];exact Nat.lt_of_le_of_lt Nat.and_le_right (by decide)
 refine ⟨(n &&& 15#32).toNat,n32 (TB.getD (n &&& 15#32).toNat 0),?_,hlow,hT _ hlow,?_⟩
 ·rw [show (15:Int)=n32 15#32 from rfl,zjN];rfl
 ·rw [show (16:Int)=((2^4:Nat):Int) from rfl,zke,zcz];rfl
theorem YZ (n:BitVec 32):∃x:Int,x=n32 n∧0≤x∧x<4294967296:=⟨_,rfl,zi9 n,zi8 n⟩
theorem zeH {l:List Int} {k:Nat} {x:Int} (h:l[k]?=some x) (n:BitVec 32):V8 n (l.drop k)=V8 (nib (nib (n ^^^ zcx x))) (l.drop (k+1)):=by
 have hl:k<l.length:=(List.getElem?_eq_some_iff.1 h).1;rw [List.drop_eq_getElem_cons hl,(List.getElem?_eq_some_iff.1 h).2];rfl
theorem zfP (s:BitVec 32) (A:Option Addr) (n c:Nat) (l:List Int) (w:World) (hT:Tab w) (hr:qt w A n c l) (hb:IsB l) (hn:n≤1000000) :
  Calls Tryz.prog 73 #[.int .u32 (n32 s),.slice A n c] w fun e w'=>e=.returned (.int .u32 (n32 (V7 s l)))∧w=w':=by
 have hs32:IntKind.u32.signed=false:=rfl;have hm32:IntKind.u32.max=4294967295:=rfl;have HT:=za hT;have HR:=za hr;have HBY:=za hb;have hcap:=hr.2.1;have HL:=za hr.1;clear hT hr hb;obtain ⟨n0,e0,_,_⟩:=YZ s;rw [←e0];obtain ⟨n1,e1,_,_⟩:=YZ (zdZ ^^^ s);have f1:bits .xor .u32 4294967295 n0=n1:=by rw [e0,e1,zgZ]
 have E1:=za e1;clear e0 e1;go_enter Tryz.func73,Tryz.ntmps73;go_wp2_with fail;clear f1
 go_loop [0,6,11] (fun v0 v6 v11=>∃(m:Int) (N:BitVec 32) (k:Nat),v0=.int .u32 m∧v11=.int .i64 k∧k≤n∧Hid (m=n32 N∧zdZ ^^^ V8 N (l.drop k)=V7 s l)) (fun _ _ i=>n-(intOf i).toNat)
 case atStart=>exact ⟨_,zdZ ^^^ s,0,rfl,rfl,by omega,⟨E1.out,rfl⟩⟩
 case round =>
  obtain ⟨m,N,k,rfl,rfl,hk,HA⟩:=hrel;have EM:=za HA.out.1;have RUN:=za HA.out.2;clear HA
  by_cases hlt:k<n
  ·obtain ⟨b,o,x,rfl,hx,hc⟩:=HR.out.at_ hlt
   have hxb:=HBY.out x (List.mem_of_getElem? hx);obtain ⟨x1,ex1,_,_⟩:=YZ (N ^^^ zcx x);obtain ⟨hx0,hx1⟩:=hxb
   have f1:bits .xor .u32 m x=x1:=by
    have e:=zja hx0 hx1;rw [Int.emod_eq_of_lt hx0 (by omega)] at e;rw [EM.out,e,zcz,ex1]
   obtain ⟨k1,t1,g1,hk1,hc1,g2⟩:=y6 HT.out (N ^^^ zcx x);rw [←ex1] at g1 g2;obtain ⟨x2,ex2,_,_⟩:=YZ (nib (N ^^^ zcx x));rw [←ex2] at g2;obtain ⟨k2,t2,g3,hk2,hc2,g4⟩:=y6 HT.out (nib (N ^^^ zcx x));rw [←ex2] at g3 g4;obtain ⟨x3,ex3,_,_⟩:=YZ (nib (nib (N ^^^ zcx x)));rw [←ex3] at g4;have EX3:=za ex3;have RUN':=za (show zdZ ^^^ V8 (nib (nib (N ^^^ zcx x))) (l.drop (k+1))=V7 s l by rw [←zeH hx];exact RUN.out)
   clear ex1 ex2 ex3 RUN hx;have hk1':(k1:Int)<16:=by omega
   have hk2':(k2:Int)<16:=by omega
   go_wp2
   go_round
   case rel=>exact ⟨_,nib (nib (N ^^^ zcx x)),k+1,rfl,by go_num,by omega,⟨EX3.out,RUN'.out⟩⟩
   case measure=>simp [intOf];omega
  ·have hge:k=n:=by omega
   have hN:zdZ ^^^ N=V7 s l:=by
    have:=RUN.out;rw [hge,←HL.out,List.drop_length] at this;exact this
   have f2:bits .xor .u32 4294967295 m=n32 (V7 s l):=by rw [EM.out,zgZ,hN]
   clear hge hN RUN EM;go_wp2;go_ret;exact ⟨rfl,rfl⟩
theorem ziS (A:Option Addr) (n c:Nat) (l:List Int) (w:World) (hT:Tab w) (hr:qt w A n c l) (hb:IsB l) (hn:n≤1000000) :
  Calls Tryz.prog 38 #[.slice A n c] w fun e w'=>e=.returned (.int .u32 (n32 (Qt l)))∧w=w':=by
 have HU:=za (zfP 0#32 A n c l w hT hr hb hn);clear hT hr hb;go_enter Tryz.func38,Tryz.ntmps38;go_wp2_with fail;refine (show Calls Tryz.prog 73 #[.int .u32 0,.slice A n c] w _ from HU.out).mono ?_;rintro e w' ⟨rfl,rfl⟩;go_wp2;go_ret;exact ⟨rfl,rfl⟩
def yF (w:World) (B:Nat) (v:Value) (xs:List Int):Prop:=w.ownsRow B 5 1 v xs.length (xs.map (.int .u8))
theorem zgm:(Tryz.prog.info? 5).map (fun i=>(i.zero,i.size,i.bytes))=some (some (.int .u8 0),1,1):=by kernel_rfl
theorem zfk (W:World) (o:Obj) (row:Option Nat):W.grownBy (W.alloc o) row:=⟨rfl,rfl,rfl,by simp,fun k hk _=>Below.heap_alloc W o k hk⟩
theorem zba {ops:Array Oper} {rest:List Oper} {o:Oper} {a:Act} {Q:Exit→Act→World→Prop} {w:World} (hgd:o.guard=none) (s x:Operand)
  (ho:o.op=.call { callee:=.builtin .append,args:=#[s,x],argTypes:=#[41,41] }) (B:Nat) (v:Value) (xs:List Int) (y:Int) (g:Nat) (hs:a.eval s=v) (hown:yF w B v xs)
  (hx:a.eval x=.slice (some ⟨g,0,none⟩) 1 1) (hy:At w g 5 #[.int .u8 y]) (hl:xs.length≤1000000) (hB:B≤w.heap.size)
  (h:∀v' w', yF w' B v' (xs++[y])→w.grownBy w' v.ownBlock→(v'.ownBlock=v.ownBlock∨v'.ownBlock=some w.heap.size)→wpList Tryz.prog ops Q rest (a.put o.dst v') w'):wpList Tryz.prog ops Q (o::rest) a w:=by
 obtain ⟨i0,hi,hz0,hz1,hz2⟩:=info_parts zgm
 refine wpList_append_own_at w hgd s x 41 ho B 5 i0 (.int .u8 0) 1 1 Tryz.underlying41 hi hz0 hz1 hz2 rfl (by decide) v xs.length (xs.map (.int .u8)) hs hown ⟨g,0,none⟩ 1 1 [.int .u8 y] hx rfl
  (fun j u hj=>?_) (fun u hu=>by simp at hu;subst hu;rfl) (by unfold maxLen;omega) (by omega) hB ?_
 ·match j,hj with
  | 0,hj=>simp at hj;subst hj;exact hy.cell 0
  | j+1,hj=>simp at hj
 ·intro v' w' hown' hgrow _ hat
  have e:xs.map (Value.int .u8)++[.int .u8 y]=(xs++[y]).map (.int .u8):=by simp
  rw [e] at hown';exact h v' w' (by unfold yF;simpa using hown') hgrow hat
def za6 (B:Nat) (v:Value) (w:World) (xs:List Int) (v':Value) (w':World):Prop:=yF w' B v' xs∧w.grownBy w' v.ownBlock∧(v'.ownBlock=v.ownBlock∨∃q,v'.ownBlock=some q∧w.heap.size≤q)
theorem YV {W:World} {B:Nat} {v:Value} {xs:List Int} (h:yF W B v xs) (o:Obj):yF (W.alloc o) B v xs:=World.ownsRow.alloc h o
theorem yF.below {w w':World} {B:Nat} {v:Value} {xs:List Int} (h:yF w B v xs) (hb:Below w.heap.size w w'):yF w' B v xs:=World.ownsRow.kept h (zN hb) (by cases v.ownBlock<;>simp)
theorem za6.step {B:Nat} {v u:Value} {w W w2:World} {xs ys:List Int} {v2:Value} {o:Obj} (h:za6 B v w xs u W) (hown:yF w2 B v2 ys) (hg:(W.alloc o).grownBy w2 u.ownBlock) (hat:v2.ownBlock=u.ownBlock∨v2.ownBlock=some (W.alloc o).heap.size):za6 B v w ys v2 w2:=by
 have hs:=h.2.1.size;refine ⟨hown,h.2.1.andThen ((zfk W o _).trans hg) (fun j e=>?_),?_⟩
 ·rcases h.2.2 with e2|⟨q,e2,hq⟩
  ·exact .inr (e2▸e)
  ·rw [e2] at e;cases e;exact .inl hq
 ·rcases hat with e|e
  ·rcases h.2.2 with e2|⟨q,e2,hq⟩
   ·exact .inl (e.trans e2)
   ·exact .inr ⟨q,e.trans e2,hq⟩
  ·exact .inr ⟨_,e,by simp;omega⟩
def Vc (x:Int) (k:Nat):Int:=IntKind.u64.wrap x / 2^(8*k)%256
def jh (x:Int) (k:Nat):List Int:=(List.range k).map (Vc x)
theorem zhJ (x:Int) (k:Nat):jh x (k+1)=jh x k++[Vc x k]:=by unfold jh;rw [List.range_succ,List.map_append];rfl
theorem jz (x:Int) (k:Nat):(jh x k).length=k:=by unfold jh;simp
theorem zan (B:Nat) (v:Value) (bs:List Int) (x:Int) (m:Nat) (hm:m≤8) (hl:bs.length≤100000) (w:World) (hO:yF w B v bs) (hB:B≤w.heap.size) (hx0:-9223372036854775808≤x) (hx1:x≤9223372036854775807) :
  Calls Tryz.prog 37 #[v,x,.int .i64 (m:Int)] w fun e w'=>∃v', e=.returned v'∧za6 B v w (bs++jh x m) v' w':=by
 have HO:=za hO;clear hO;go_enter Tryz.func37,Tryz.ntmps37;go_wp2_with fail
 go_loopw [0,7,9] (fun u _ i wr=>∃k:Nat,k≤m∧i=.int .i64 k∧Hid (za6 B v w (bs++jh x k) u wr)) (fun _ _ i _=>m-(intOf i).toNat)
 case atStart=>exact ⟨0,by omega,rfl,za ⟨by simpa [jh] using HO.out,⟨rfl,rfl,rfl,Nat.le_refl _,fun _ _ _=>rfl⟩,.inl rfl⟩⟩
 case round =>
  obtain ⟨k,hk,rfl,HG⟩:=hrel
  by_cases hlt:k<m
  ·obtain ⟨y,hy⟩:=zc (IntKind.u64.wrap x / 2^(8*k)%256)
   have HT:=za (show (bs++jh x k)++[y]=bs++jh x (k+1) by rw [zhJ,List.append_assoc];unfold Vc;rw [hy]);have HL:=za (show (bs++jh x k).length≤1000000 by rw [List.length_append,jz];omega);have HS:=za HG.out.2.1.size;go_wp2_with (at_builtin;simp only [hy];refine zba rfl (.tmp 12) (.tmp 19) rfl B u0 _ y wr.heap.size rfl (YV HG.out.1 _) rfl (At.new _ _ _) HL.out (by have:=HS.out;simp;omega) ?_;intro v2 w2 hown hgrow hat;rw [HT.out] at hown;have HG2:=za (za6.step HG.out hown hgrow hat);clear hown hgrow hat)
   go_roundw
   case rel=>exact ⟨k+1,by omega,by go_num,HG2⟩
   case measure=>simp [intOf];omega
  ·have e:k=m:=by omega
   subst e;go_wp2_with fail;go_ret;exact ⟨_,rfl,HG.out⟩
section
attribute [local go_sem] Oper.semAt_some ve
def zjQ (g:Nat):Value:=.func (.func 127) #[] #[.pointer (some ⟨g,0,none⟩)]
theorem zbc (A:Option Addr) (n c:Nat) (w:World):Calls Tryz.prog 102 #[.slice A n c] w fun e w'=>e=.returned (zjQ w.heap.size)∧w.alloc (.cells #[.slice A n c] 41)=w':=by
 go_enter Tryz.func102,Tryz.ntmps102;go_wp2;go_ret;exact ⟨rfl,rfl⟩
def yC (l:List Int):List (Int×Int):=(List.range l.length).reverse.map fun (i:Nat)=>((i:Int),l.getD i 0)
theorem zgL {l:List Int} {j:Nat} {x:Int} (hj:j+1≤l.length) (h:l[j]?=some x):(yC l).take (l.length-j)=(yC l).take (l.length-(j+1))++[((j:Int),x)]:=by
 have e:(yC l)[l.length-(j+1)]?=some ((j:Int),x):=by
  unfold yC;rw [List.getElem?_map,List.getElem?_reverse (by simp;omega),List.length_range,List.getElem?_range (by omega)];simp [show l.length-1-(l.length-(j+1))=j by omega,List.getD_eq_getElem?_getD,h]
 rw [show l.length-j=l.length-(j+1)+1 by omega,List.take_add_one,e];rfl
theorem zdB (l:List Int):(yC l).length=l.length:=by unfold yC;simp
abbrev zkr (x:Int×Int):Array Value:=#[x.1,.int .u8 x.2]
theorem zjR (n:Nat) (hn1:1≤n) (Kp:World→World→Prop) (hKd:∀A B:World,Kp A B→Kp A B.drew) (hKt:∀A B C:World,Kp A B→Kp B C→Kp A C) (l g:Nat) (A:Option Addr) (m c:Nat) (xs:List Int) (hm1:m≤1000000) (J Jx:List (Int×Int)→World→Prop)
  (hY:∀pre x W,J pre W→pre.length<m→YieldAt Fence.wide (n-1) Tryz.prog l (zkr x) W fun e W' =>
   (e=.returned (.bool true)∧J (pre++[x]) W'∧Kp W W')∨(e=.returned (.bool false)∧Jx (pre++[x]) W'))
  (hJd:∀pre W,J pre W→J pre W.drew)
  (W:World) (hKr:Kp W W) (hc1:∀W', Kp W W'→W'.cell? ⟨g,0,none⟩=some (.slice A m c))
  (hx:∀W', Kp W W'→qt W' A m c xs) (h0:J [] W) :
  CallsIn Fence.wide n Tryz.prog 127 #[.func (.yield l) #[] #[],.pointer (some ⟨g,0,none⟩)] W fun e W'=>(∃v,e=.returned v) ∧
   ((∃zs,zs=yC xs∧J zs W')∨(∃pre,pre <+: yC xs∧Jx pre W')):=by
 have HX:=za hx;have lx:=(hx W hKr).1;have hcap:=(hx W hKr).2.1;have LX:=za lx;have HD:=za hJd;have C1:=za hc1;have KD:=za hKd;have KT:=za hKt;have KR:=za hKr;have i1:=hc1 W hKr;have HYY:=za hY;clear hx lx hJd hY hc1 hKd hKt hKr;refine callsIn_of_wp Tryz.func127 rfl trivial ?_ rfl;simp only [Tryz.ntmps127,List.size_toArray,List.length_cons,List.length_nil,Nat.reduceAdd,Nat.reduceSub,Array.replicate_succ,Array.replicate_zero,List.push_toArray,List.append_toArray,List.nil_append,List.cons_append]
 gi_wp2
 gi_loopw [3] (fun i wr=>∃j:Nat,j≤m∧i=.int .i64 ((j:Int)-1)∧Hid (J ((yC xs).take (m-j)) wr)∧Hid (Kp W wr)) (fun i _=>(intOf i+1).toNat)
 case atStart=>exact ⟨m,by omega,rfl,by rw [Nat.sub_self];exact h0,KR⟩
 case round =>
  obtain ⟨j,hj,rfl,HJ,HB⟩:=hrel
  by_cases hlt:0<j
  ·obtain ⟨k,rfl⟩:∃k,j=k+1:=⟨j-1,by omega⟩
   have ej:((k+1:Nat):Int)-1=(k:Int):=by omega
   simp only [ej];obtain ⟨b,o,x,rfl,hxk,x0⟩:=(HX.out wr HB.out).at_ (k:=k) (by omega);have hlen:((yC xs).take (m-(k+1))).length<m:=by rw [List.length_take,zdB,LX.out];omega
   obtain ⟨fn,tmps,assign,body,hyy,hR⟩:=HYY.out _ ((k:Int),x) wr HJ.out hlen;have HT:=za (show (yC xs).take (m-k)=(yC xs).take (m-(k+1))++[((k:Int),x)] by have:=LX.out;subst this;exact zgL hj hxk);clear hxk hlen;have c1:=C1.out wr HB.out;dsimp only [zkr] at hyy;gi_wp2;refine hR.mono ?_;rintro e W3 (⟨rfl,hJ3,hk3⟩|⟨rfl,hJx3⟩)
   ·have HJ3:=za (show J ((yC xs).take (m-k)) W3 by rw [HT.out];exact hJ3)
    have HB3:=za (KT.out _ _ _ HB.out hk3);clear hJ3 hk3;gi_wp2;go_roundw
    case rel=>exact ⟨k,by omega,by go_num,HJ3,HB3⟩
    case measure=>simp [intOf]
   ·have HJ3:=za (show Jx ((yC xs).take (m-k)) W3 by rw [HT.out];exact hJx3)
    clear hJx3;gi_wp2;exact XaY
  ·obtain rfl:j=0:=by omega
   have e:(yC xs).take (m-0)=yC xs:=List.take_of_length_le (by rw [zdB,LX.out];omega);rw [e] at HJ;clear e;gi_wp2
   go_end0
   exact ⟨⟨_,rfl⟩,.inl ⟨_,rfl,HJ.out⟩⟩
theorem KB.bytes {S:Nat→Prop} {w A B:World} {a:Option Addr} {n c:Nat} {xs:List Int} (h:KB S A B) (hx:qt w a n c xs) (hA:Below w.heap.size w A) (hS:∀k,k<w.heap.size→S k):qt B a n c xs :=
 hx.keep fun b i v hc=>h.cell (hS b (World.block_lt_of_cell? w ⟨b,i,none⟩ hc)) (zR hA _ _ _ hc)
theorem zgK (n:Nat) (hn1:1≤n) (S:Nat→Prop) (g:Nat) (A:Option Addr) (m c:Nat) (xs:List Int) (hm1:m≤1000000) (w0 w:World) (hS:∀k,S k→k<w.heap.size) (hS0:∀k,k<w0.heap.size→S k) (hS1:S g) (hb:Below w0.heap.size w0 w)
  (hc1:w.cell? ⟨g,0,none⟩=some (.slice A m c)) (hx:qt w0 A m c xs) :
  SeqStopsK Fence.wide n Tryz.prog 127 #[.pointer (some ⟨g,0,none⟩)] zkr (KB S) (fun zs=>zs=yC xs) (fun pre=>pre <+: yC xs) m w:=fun l J Jx W hW hJ hJx hY h0=>by
 have k0:KB S w W:=(KB.refl S w).call hS hW
 exact zjR n hn1 (KB S) (fun _ _ h=>h.drew) (fun _ _ _ h k=>h.trans k) l g A m c xs hm1 J Jx hY (fun pre W h=>hJ pre W W.drew none h ⟨rfl,rfl,rfl,Nat.le_refl _,fun _ _ _=>rfl⟩ (fun r e=>by cases e)) W (KB.refl S W)
  (fun W' h=>(k0.trans h).cell hS1 hc1) (fun W' h=>(k0.trans h).bytes hx hb hS0) h0
def Yi (v c:Int):Int:=bits .or .u64 (IntKind.u64.wrap (v*256)) (IntKind.u64.wrap c)
def Zo (pre:List (Int×Int)):Int:=pre.foldl (fun v x=>Yi v x.2) 0
theorem zef (pre:List (Int×Int)) (i x:Int):Zo (pre++[(i,x)])=Yi (Zo pre) x:=by unfold Zo;rw [List.foldl_append];rfl
def VE (xs:List Int):Int:=wrap64 (Zo (yC xs))
theorem zao (A : Option Addr) (n c : Nat) (xs : List Int) (hn : n ≤ 1000000) (w : World) (hx : qt w A n c xs) :
  Calls Tryz.prog 74 #[.slice A n c] w fun e w' => e = .returned (.int .i64 (VE xs)) ∧ Below w.heap.size w w' := by
 have HX := za hx;clear hx;have hu := Tryz.underlying71;refine (callsIn_wide (n := 9)).1 ?_;refine callsIn_of_wp_marks Tryz.func74 rfl trivial ?_ rfl;simp only [Tryz.ntmps74, List.size_toArray, List.length_cons, List.length_nil, Nat.reduceAdd, Nat.reduceSub, Array.replicate_succ, Array.replicate_zero, List.push_toArray, List.append_toArray, List.nil_append, List.cons_append];gi_wp2_with (gi_at_call 102; refine (zw 8 (zbc _ _ _ _)).mono ?_; rintro e w' ⟨rfl, rfl⟩)
 have A0 := za ((At.new w 137 #[.int .u64 0]).alloc (.cells #[.slice A n c] 41));have A1 := za (At.new (w.alloc (.cells #[.int .u64 0] 137)) 41 #[.slice A n c]);have B0 := za (zg (zg (Below.refl w.heap.size w) (.cells #[.int .u64 0] 137)) (.cells #[.slice A n c] 41));obtain ⟨W0, hW0⟩ := zc (((w.alloc (.cells #[.int .u64 0] 137)).alloc (.cells #[.slice A n c] 41)));simp only [World.size_alloc] at A1
 have hWg := za (show W0.heap.size = w.heap.size + 2 by rw [← hW0]; simp);rw [hW0] at A0 A1 B0 ⊢;clear hW0;obtain ⟨g, hg⟩ := zc (w.heap.size);rw [hg] at A0 A1 B0 hWg
 try simp only [hg]
 obtain ⟨S, hSd⟩ : ∃ S : Nat → Prop, S = fun k => k < W0.heap.size ∧ k ≠ g := ⟨_, rfl⟩
 have hS : ∀ k, S k → k < W0.heap.size := fun k h => by rw [hSd] at h; exact h.1
 have hSo : ¬ S g := fun h => by rw [hSd] at h; exact h.2 rfl
 have hSi : ∀ k, k < W0.heap.size → k ≠ g → S k := fun k h1 h2 => by rw [hSd]; exact ⟨h1, h2⟩
 have hsz := hWg.out;clear hSd
 refine wpIn_rangeFunc_ownH (α := Int × Int) rfl (by decide) (gf := 127) (lb := #[.pointer (some ⟨g + 1, 0, none⟩)]) rfl trivial (enters_of Tryz.func127 (by kernel_rfl) rfl)
  (zgK 8 (by decide) S (g + 1) A n c xs hn w W0 hS (fun k hk => hSi k (by omega) (by omega)) (hSi _ (by omega) (by omega)) (by rw [hg]; exact B0.out) (A1.out.cell 0) HX.out)
  (fun h k => h.trans k) (fun W l o o' hl _ _ _ => ⟨rfl, rfl, rfl, by simp, fun k hk => World.putObj_heap_other (fun e => by have := hS k hk; omega)⟩) (Below.refl _ _) (fun _ => rfl)
  (fun pre W => At W g 137 #[.int .u64 (Zo pre)] ∧ KB S W0 W) (fun _ _ _ => False)
  (by
   rintro pre W W' row ⟨h, hk⟩ hgr hr;exact ⟨qf h hgr (fun r e => (hr r e).2), YU hk hS (Nat.le_refl _) hgr (fun r e => (hr r e).1)⟩)
  (fun _ _ _ _ _ hs _ _ => hs)
  ⟨A0.out, KB.refl S W0⟩
  (fun x a' W => a' = { tmps := #[.slice A n c, undef, .int .i64 0, .pointer (some ⟨g, 0, none⟩), undef, .int .u8 x.2, .slice A n c, zjQ (g + 1), x.1, .int .u8 x.2, undef, undef, undef, undef, undef, undef, undef], defers := [] })
  (by
   rintro x a' u W W' row h6 hgr hr;exact h6)
  ?assign ?body ?done ?stop
 case assign =>
  rintro l pre ⟨i, x⟩ W K ⟨h, hk⟩ hK;dsimp only [zkr] at hK ⊢;have HK := za hK;clear hK;gi_wp2;exact HK.out _ _ (zB (Below.refl _ _)) (KB.refl S W) ⟨h, hk⟩ rfl
 case body =>
  rintro l pre ⟨i, x⟩ a' W hl hr ⟨h, hk⟩ rfl hlen;have H := za h;have HK := za hk;obtain ⟨v, hv⟩ := zc (Zo pre);rw [hv] at H;have a0 := H.out.cell 0;have z0 := H.out.frozen 0;clear h hk;gi_wp2;have hs := zef pre i x;rw [hv] at hs;exact ⟨zV _ _ _ _, (KB.refl S W).set hSo _ _, by rw [hs]; exact H.out.set 0 _ rfl, HK.out.set hSo _ _⟩
 case done =>
  rintro D zs W hD rfl ⟨h, hk⟩ hK;have e0 := h.cell 0;have HK := za hK;have H := za h;have HKK := za hk;have hD' := za hD;clear h hK hD hk;gi_wp2;refine ⟨by simp, .inl ⟨_, _, rfl, run_takeDeferred HK.out, ?_⟩⟩;have hg0 : g ≤ W0.heap.size := by omega
  refine ⟨_, results_tmp rfl _ _ _, rfl, ?_⟩;rw [hg];exact qu (B0.out.trans (HKK.out.below (fun k hk => hSi k (by omega) (by omega)))) (Nat.le_trans hg0 HKK.out.size) (Nat.le_trans hg0 hD'.out) _
 case stop => exact fun D cc pre W _ _ h _ => h.elim
end
theorem XaP {P:Prop} (h:P:=by
 go_enter Tryz.func71,Tryz.ntmps71;go_wp2;go_ret;exact ⟨rfl,rfl⟩) : P := h
section
attribute [local go_sem] Oper.semAt_some
def jL (k n:Int):Int:=if n<1 then 0 else if 4<n then 0 else if k=1 then n+n*n else if k=2 then 2*n*n else if k=3 then n+2 else 0
theorem Y9 (k n:Int) (w:World):Calls Tryz.prog 71 #[k,n] w fun e w'=>e=.returned (.int .i64 (jL k n))∧w=w':=by
 have D:=za (show jL k n=if n<1 then 0 else if 4<n then 0 else if k=1 then n+n*n else if k=2 then 2*n*n else if k=3 then n+2 else 0 from rfl);obtain ⟨r,hr⟩:=zc (jL k n);rw [hr] at D ⊢;clear hr
 by_cases h1:n<1
 ·have E:=D.out
  rw [if_pos h1] at E;subst E;exact XaP
 ·by_cases h2:4<n
  ·have E:=D.out
   rw [if_neg h1,if_pos h2] at E;subst E;exact XaP
  ·obtain ⟨m,hm⟩:=zc (n*n)
   have hm1:1≤m∧m≤16:=by
    have:n=1∨n=2∨n=3∨n=4:=by omega
    rcases this with rfl|rfl|rfl|rfl<;>omega
   obtain ⟨q,hq⟩:=zc (2*n*n);have hq1:1≤q∧q≤32:=by rw [←hq,Int.mul_assoc,hm];omega
   have E:=D.out;rw [if_neg h1,if_neg h2,hm,hq] at E
   by_cases k1:k=1
   ·rw [if_pos k1] at E
    subst E k1;exact XaP
   ·by_cases k2:k=2
    ·rw [if_neg k1,if_pos k2] at E
     subst E k2;exact XaP
    ·by_cases k3:k=3
     ·rw [if_neg k1,if_neg k2,if_pos k3] at E
      subst E k3;exact XaP
     ·rw [if_neg k1,if_neg k2,if_neg k3] at E
      subst E;exact XaP
theorem zej (x:Int) (w:World):Calls Tryz.prog 69 #[x] w fun e w'=>e=.returned (.bool (!inF x))∧w=w':=by
 have C:=za (fun W=>jM x W);go_enter Tryz.func69,Tryz.ntmps69;go_wp2_with fail;refine (C.out _).mono ?_;rintro e w' ⟨rfl,rfl⟩;go_wp2;go_ret;exact ⟨rfl,rfl⟩
theorem zjB (args:Array Value) (W:World):(callFunc 69 args).run Tryz.prog W=.ok (.enter 69 args) W:=enters_of Tryz.func69 (by kernel_rfl) rfl args W
theorem zjS {xs:List Int} {k:Nat} {x:Int} {p:Int→Bool} (h:xs[k]?=some x) (hk:(xs.take k).any p=false) (hp:p x=false):(xs.take (k+1)).any p=false:=by
 rw [List.take_add_one,h];simp [hk,hp]
theorem zle {xs:List Int} {k:Nat} {x:Int} {p:Int→Bool} (h:xs[k]?=some x) (hp:p x=true):xs.any p=true:=List.any_eq_true.2 ⟨x,List.mem_of_getElem? h,hp⟩
theorem Vk (F:Nat) (p:Int→Bool) (hf:∀(x:Int) (W:World),Calls Tryz.prog F #[x] W fun e w'=>e=.returned (.bool (p x))∧W=w') (heF:∀(args:Array Value) (W:World),(callFunc F args).run Tryz.prog W=.ok (.enter F args) W) (A:Option Addr) (n c:Nat) (xs:List Int) (hn:n≤1000000) (w:World) (hx:zU w A n c xs) :
  Calls Tryz.prog 101 #[.slice A n c,.func (.func F) #[] #[]] w fun e w'=>(∃r:Int,e=.returned r∧-1≤r∧r≤1000000∧decide (0≤r)=xs.any p)∧w=w':=by
 have HF:=za hf;clear hf;have HX:=za hx;have LX:=za hx.1;have hcap:=hx.2.1;clear hx;go_enter Tryz.func101,Tryz.ntmps101;go_wp2_with fail
 go_loop [4,5,8] (fun v _ i=>∃k:Nat,k≤n∧i=.int .i64 k∧Hid ((xs.take k).any (p)=false)) (fun _ _ i=>n-(intOf i).toNat)
 case atStart=>exact ⟨0,by omega,rfl,by simp [Hid]⟩
 case round =>
  obtain ⟨k,hk,rfl,HK⟩:=hrel
  by_cases hlt:k<n
  ·obtain ⟨b,o,x,rfl,hxk,x0⟩:=HX.out.at_ hlt
   have C:=za (fun W=>HF.out x W);go_wp2_with fail;refine (C.out _).mono ?_;cases hp:p x with
   | true =>
    have HA:=za (zle (p:=p) hxk hp);clear hp hxk;rintro e w' ⟨rfl,rfl⟩;go_wp2_with fail;go_ret;exact ⟨⟨k,rfl,by omega,by omega,by rw [HA.out];simp⟩,rfl⟩
   | false =>
    have HA:=za (zjS (p:=p) hxk HK.out hp);clear hp hxk HK;rintro e w' ⟨rfl,rfl⟩;go_wp2_with fail
    go_round
    case rel=>exact ⟨k+1,by omega,by go_num,HA⟩
    case measure=>simp [intOf];omega
  ·have e:xs.take k=xs:=List.take_of_length_le (by rw [LX.out];omega)
   have HK2:=za (e▸HK.out);clear e HK;go_wp2_with fail;go_ret;exact ⟨⟨-1,rfl,by omega,by omega,by rw [HK2.out];rfl⟩,rfl⟩
theorem vY (F:Nat) (p:Int→Bool) (hf:∀(x:Int) (W:World),Calls Tryz.prog F #[x] W fun e w'=>e=.returned (.bool (p x))∧W=w') (heF:∀(args:Array Value) (W:World),(callFunc F args).run Tryz.prog W=.ok (.enter F args) W) (A:Option Addr) (n c:Nat) (xs:List Int) (hn:n≤1000000) (w:World) (hx:zU w A n c xs) :
  Calls Tryz.prog 72 #[.slice A n c,.func (.func F) #[] #[]] w fun e w'=>e=.returned (.bool (xs.any p))∧w=w':=by
 have C:=za (Vk F p hf heF A n c xs hn w hx);clear hf;clear hx;go_enter Tryz.func72,Tryz.ntmps72;go_wp2_with fail;refine C.out.mono ?_;rintro e w' ⟨⟨r,rfl,h1,h2,h3⟩,rfl⟩;have HD:=za h3;clear h3;go_wp2_with fail;go_ret;exact ⟨by show Ending.returned (.bool (decide (0≤r)))=_;rw [HD.out],rfl⟩
theorem Yt (A:Option Addr) (n c:Nat) (xs:List Int) (hn:n≤1000000) (w:World) (hx:zU w A n c xs) :
  Calls Tryz.prog 72 #[.slice A n c,.func (.func 69) #[] #[]] w fun e w'=>e=.returned (.bool (xs.any fun x=>!inF x))∧w=w':=vY 69 (fun x=>!inF x) zej zjB A n c xs hn w hx
end
theorem Xa2 {P:Prop} (h:P:=by
 unfold jL
 split
 ·omega
 ·split
  ·omega
  ·have:n=1∨n=2∨n=3∨n=4:=by omega
   rcases this with rfl|rfl|rfl|rfl<;>(split<;>first|omega|(split<;>first|omega|(split<;>omega)))) : P := h
theorem Xbe {P:Prop} (h:P:=by
 go_enter Tryz.func95,Tryz.ntmps95;go_wp2;go_ret;exact ⟨rfl,Below.refl _ _⟩) : P := h
section
attribute [local go_sem] Oper.semAt_some
theorem Y4 (k n:Int):0≤jL k n∧jL k n≤32:=by
 exact Xa2
def sizeOf (xs:List Int):Int:=if xs.length<4 then 0 else if xs.getD 0 0=78∧xs.getD 1 0=86 then (if jL (xs.getD 2 0) (xs.getD 3 0)=0 then 0 else 12+8*jL (xs.getD 2 0) (xs.getD 3 0)) else 0
theorem zbs {y:Int} {k:Nat} (hk:k<256) (h0:0≤y) (h1:y<256):(UInt8.ofNat y.toNat==UInt8.ofNat k)=decide (y=(k:Int)):=by
 rw [Bool.eq_iff_iff];simp only [beq_iff_eq,decide_eq_true_eq];constructor
 ·intro h
  have:=congrArg UInt8.toNat h;simp at this;omega
 ·rintro rfl
  simp
theorem zhB (A:Option Addr) (n c:Nat) (xs:List Int) (hn:n≤1000000) (hb:IsB xs) (w:World) (hx:qt w A n c xs) :
  Calls Tryz.prog 95 #[.slice A n c] w fun e w'=>e=.returned (.int .i64 (sizeOf xs))∧Below w.heap.size w w':=by
 have hcap:=hx.2.1;have hlen:=hx.1
 by_cases h4:n<4
 ·have E:=za (show sizeOf xs=0 by unfold sizeOf;rw [if_pos (by omega)])
  rw [E.out];clear E hx hb hlen;exact Xbe
 ·obtain ⟨b,o,rfl,hc⟩:=hx.2.2 (by omega)
  obtain ⟨y0,y1,y2,y3,zs,rfl⟩:∃y0 y1 y2 y3 zs,xs=y0::y1::y2::y3::zs:=by
   match xs,hlen with
   | y0::y1::y2::y3::zs,_=>exact ⟨y0,y1,y2,y3,zs,rfl⟩
   | [],h=>simp at h;omega
   | [_],h=>simp at h;omega
   | [_,_],h=>simp at h;omega
   | [_,_,_],h=>simp at h;omega
  have c0:=hc 0 y0 rfl;have c1:=hc 1 y1 rfl;have c2:=hc 2 y2 rfl;have c3:=hc 3 y3 rfl;have r0:=hb y0 (by simp);have r1:=hb y1 (by simp);obtain ⟨r2,r2'⟩:=hb y2 (by simp);obtain ⟨r3,r3'⟩:=hb y3 (by simp)
  have hs:sizeOf (y0::y1::y2::y3::zs)=if y0=78∧y1=86 then (if jL y2 y3=0 then 0 else 12+8*jL y2 y3) else 0:=by
   unfold sizeOf;rw [if_neg (by simp)];rfl
  rw [Nat.add_zero] at c0
  have hcv:=run_convert_bytes_arg (P:=Tryz.prog) w 41 5 Tryz.underlying41 Tryz.underlying5 b o 2 c [y0,y1] rfl (fun i hi=>by
   match i,hi with
   | 0,_=>exact c0
   | 1,_=>exact c1) 9 Tryz.underlying9
  have hstr:strOfNums [y0,y1]={ data:=#[UInt8.ofNat y0.toNat,UInt8.ofNat y1.toNat] }:=rfl;rw [hstr] at hcv;clear hstr;have e0:(UInt8.ofNat y0.toNat==78)=decide (y0=78):=zbs (k:=78) (by omega) r0.1 r0.2;have e1:(UInt8.ofNat y1.toNat==86)=decide (y1=86):=zbs (k:=86) (by omega) r1.1 r1.2;rw [hs];clear hs hx hc hb hlen;have C:=za (fun W=>Y9 y2 y3 W);have hml:=Y4 y2 y3
  obtain ⟨q,hq⟩:=zc (jL y2 y3);rw [hq] at C hml ⊢;obtain ⟨hm0,hm1⟩:=hml;clear hq;have hn4:¬(n:Int)<4:=by omega
  by_cases h0:y0=78
  case neg =>
   rw [if_neg (by omega)];rw [decide_eq_false h0] at e0;exact Xbe
  case pos =>
   by_cases h1:y1=86
   case neg =>
    rw [if_neg (by omega)];rw [decide_eq_false h1] at e1;exact Xbe
   case pos =>
    rw [if_pos ⟨h0,h1⟩];obtain ⟨r,hr⟩:=zc ((if q=0 then (0:Int) else 12+8*q));rw [hr];have HR:=za hr;clear hr;subst h0 h1;rw [decide_eq_true rfl] at e0 e1;go_enter Tryz.func95,Tryz.ntmps95;go_wp2_with fail;refine zbz 8 (by kernel_rfl) (by kernel_rfl) ?_;simp only [List.take_succ_cons,List.take_zero,List.drop_succ_cons,List.drop_zero];have k2:=fun x=>Ext.cell c2 x;have k3:=fun x=>Ext.cell c3 x
    repeat (go_big_quiet_step (fail))
    refine wpQuiet_nil ?_;rintro w1 ⟨x1,rfl⟩;go_wp2_with fail;refine (C.out x1.w).mono ?_;rintro e w' ⟨rfl,rfl⟩;have hbx:=x1.below
    by_cases hq0:q=0
    ·have E:=HR.out
     rw [if_pos hq0] at E;subst hq0 E;go_wp2_with fail;go_ret;exact ⟨rfl,hbx⟩
    ·have E:=HR.out
     rw [if_neg hq0] at E;subst E;go_wp2_with fail;go_ret;exact ⟨rfl,hbx⟩
def zfm (g:Nat):Value:=.func (.func 94) #[] #[.pointer (some ⟨g,0,none⟩)]
theorem zeM (A:Option Addr) (n c:Nat) (w:World):Calls Tryz.prog 61 #[.slice A n c] w fun e w'=>e=.returned (zfm w.heap.size)∧w.alloc (.cells #[.slice A n c] 41)=w':=by
 go_enter Tryz.func61,Tryz.ntmps61;go_wp2;go_ret;exact ⟨rfl,rfl⟩
end
theorem XaC {P:Prop} (h:P:=by
 go_wp2_with fail;go_ret
 first | exact ⟨rfl,B0.out⟩|exact ⟨rfl,by rw [hg];exact B0.out⟩) : P := h
section
attribute [local go_sem] Oper.semAt_some
def qV (k s n:Int) (A:Option Addr) (m c:Nat):Value:=.agg #[k,s,n,.slice A m c]
def zQ (k s n:Int) (l:List Int):Bool:=decide (0<jL k n)&&(decide ((l.length:Int)=jL k n)&&(decide (0≤s)&&(decide (s≤4294967295)&&!(l.any fun x=>!inF x))))
theorem zdl (k n:Int):jL k n≤32:=by
 exact Xa2
theorem Zd (k s n:Int) (A:Option Addr) (m c:Nat) (l:List Int) (hm:m≤1000000) (w:World) (hx:zU w A m c l) :
  Calls Tryz.prog 36 #[qV k s n A m c] w fun e w'=>e=.returned (.bool (zQ k s n l))∧Below w.heap.size w w':=by
 have HX:=za hx;have LX:=za hx.1;clear hx;have C:=za (fun W=>Y9 k n W);have D:=za (show zQ k s n l=(decide (0<jL k n)&&(decide ((m:Int)=jL k n)&&(decide (0≤s)&&(decide (s≤4294967295)&&!(l.any fun x=>!inF x))))) by unfold zQ;rw [LX.out]);obtain ⟨q,hq⟩:=zc (jL k n);obtain ⟨r,hr⟩:=zc (zQ k s n l);rw [hq] at C D;rw [hr] at D ⊢;clear hr hq;have hu:=Tryz.underlying47
 unfold qV;go_enter Tryz.func36,Tryz.ntmps36;go_wp2_with fail;have A0:=za (At.new w 47 #[k,s,n,.slice A m c]);have B0:=za (zg (Below.refl w.heap.size w) (.cells #[k,s,n,.slice A m c] 47));obtain ⟨W0,hW0⟩:=zc ((w.alloc (.cells #[k,s,n,.slice A m c] 47)));have hWg:=za (show W0.heap.size=w.heap.size+1 by rw [←hW0];simp);rw [hW0] at A0 B0 ⊢;clear hW0;obtain ⟨g,hg⟩:=zc (w.heap.size)
 rw [hg] at A0 B0 hWg
 try simp only [hg]
 obtain ⟨x0,x1,x2,x3⟩:=A0.out.four;go_wp2_with fail;refine (C.out _).mono ?_;rintro e w' ⟨rfl,rfl⟩
 by_cases h0:0<q
 case neg =>
  have E:=D.out;simp only [h0,decide_true,decide_false,Bool.true_and,Bool.false_and,Bool.and_true,Bool.and_false] at E;subst E;exact XaC
 case pos =>
  by_cases h1:(m:Int)=q
  case neg =>
   have E:=D.out;simp only [h0,h1,decide_true,decide_false,Bool.true_and,Bool.false_and,Bool.and_true,Bool.and_false] at E;subst E;exact XaC
  case pos =>
   by_cases h2:0≤s
   case neg =>
    have E:=D.out;simp only [h0,h1,h2,decide_true,decide_false,Bool.true_and,Bool.false_and,Bool.and_true,Bool.and_false] at E;subst E;exact XaC
   case pos =>
    by_cases h3:s≤4294967295
    case neg =>
     have E:=D.out;simp only [h0,h1,h2,h3,decide_true,decide_false,Bool.true_and,Bool.false_and,Bool.and_true,Bool.and_false] at E;subst E;exact XaC
    case pos =>
     have E:=za (show r=!(l.any fun x=>!inF x) by have E:=D.out;simpa only [h0,h1,h2,h3,decide_true,decide_false,Bool.true_and] using E);clear D;have F:=za (Yt A m c l hm W0 (HX.out.below (by rw [hg];exact B0.out)));obtain ⟨u,hu2⟩:=zc ((l.any fun x=>!inF x));rw [hu2] at F E;clear hu2;have E9:=E.out;subst E9;clear E;go_wp2_with fail;refine F.out.mono ?_;rintro e w' ⟨rfl,rfl⟩
     exact XaC
end
end Go.Proofs.YtcoiklclbljjeaaGreatDoor.L
