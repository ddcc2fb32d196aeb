/- Lemmas of the card's proof. -/
import Derived.Test.YtcoiklclbljjeaaGreatDoorM18
set_option linter.unusedVariables false
set_option linter.unusedSimpArgs false
set_option maxRecDepth 100000
set_option maxHeartbeats 16000000
namespace Go.Proofs.YtcoiklclbljjeaaGreatDoor.L
open Go.RowKit
theorem XaU {P:Prop} (h:P:=by
 subst e;exact ⟨zP.snoc h1 h3,zg h2 _,by rw [World.size_alloc,h3]⟩) : P := h
section
structure Sim (G:List Nat) (lo hi N:Nat) (w w':World):Prop where
 os:w'.os=w.os
 tape:w'.tape=w.tape
 output:w'.output=w.output
 size:w.heap.size≤w'.heap.size
 block:∀k,k<N→k<lo∨hi≤k→k∉G→w'.heap[k]?=w.heap[k]?
variable {G:List Nat}
theorem Sim.refl (G:List Nat) (lo hi N:Nat) (w:World):Sim G lo hi N w w:=⟨rfl,rfl,rfl,Nat.le_refl _,fun _ _ _ _=>rfl⟩
theorem Sim.trans {lo hi N:Nat} {a b c:World} (h:Sim G lo hi N a b) (k:Sim G lo hi N b c):Sim G lo hi N a c :=
 ⟨k.os.trans h.os,k.tape.trans h.tape,k.output.trans h.output,Nat.le_trans h.size k.size,fun i hi hg hG=>(k.block i hi hg hG).trans (h.block i hi hg hG)⟩
theorem Sim.mono {lo hi N M:Nat} {a b:World} (h:Sim G lo hi M a b) (hm:N≤M):Sim G lo hi N a b:=⟨h.os,h.tape,h.output,h.size,fun i hi hg hG=>h.block i (Nat.lt_of_lt_of_le hi hm) hg hG⟩
theorem Sim.of_below {lo hi N M:Nat} {a b:World} (h:Below M a b) (hm:N≤M):Sim G lo hi N a b:=⟨h.os,h.tape,h.output,h.size,fun i hi _ _=>h.block i (Nat.lt_of_lt_of_le hi hm)⟩
theorem Sim.set (G:List Nat) (lo hi N:Nat) (w:World) {g:Nat} (hg:lo≤g∧g<hi∨N≤g) (i:Nat) (u:Value):Sim G lo hi N w (w.setCell ⟨g,i,none⟩ u) :=
 ⟨rfl,rfl,rfl,by simp [World.setCell],fun k hk hx _=>Below.heap_setCell w ⟨g,i,none⟩ u k (fun e=>by change k=g at e;omega)⟩
theorem Sim.drew (G:List Nat) (lo hi N:Nat) (w:World):Sim G lo hi N w w.drew:=⟨rfl,rfl,rfl,Nat.le_refl _,fun _ _ _ _=>rfl⟩
theorem Sim.grown {lo hi N:Nat} {w w':World} {row:Option Nat} (h:w.grownBy w' row) (hN:N≤w.heap.size) (hr:∀k,row=some k→lo≤k∧k<hi∨N≤k):Sim G lo hi N w w' :=
 ⟨h.os,h.tape,h.output,h.size,fun k hk hx _=>h.block k (Nat.lt_of_lt_of_le hk hN) (fun e=>by have:=hr k e.symm;omega)⟩
def zP (W:World):Nat→List (TypeId×Array Value)→Prop
 | _,[]=>True
 | g,b::l=>At W g b.1 b.2∧zP W (g+1) l
structure Off (G:List Nat) (lo hi N:Nat) (p:World→Prop) (W:World):Prop where
 le:lo≤hi
 up_:hi≤N
 top:N≤W.heap.size
 gl:∀q,q∈G→q<lo
 all:∀W', Sim G lo hi N W W'→p W'
section
variable {lo hi N M:Nat} {p q:World→Prop} {W W' w:World}
theorem Off.out (h:Off G lo hi N p W):p W:=h.all W (Sim.refl _ _ _ _ _)
theorem Off.hiw (h:Off G lo hi N p W):hi≤W.heap.size:=Nat.le_trans h.up_ h.top
theorem Off.sim (h:Off G lo hi N p W) (k:Sim G lo hi N W W'):Off G lo hi N p W':=⟨h.le,h.up_,Nat.le_trans h.top k.size,h.gl,fun X hX=>h.all X (k.trans hX)⟩
theorem Off.call (h:Off G lo hi N p W) (k:Below W.heap.size W W'):Off G lo hi N p W':=h.sim (Sim.of_below k h.top)
theorem Off.set (h:Off G lo hi N p W) {g:Nat} (hg:lo≤g∧g<hi∨N≤g) (i:Nat) (u:Value):Off G lo hi N p (W.setCell ⟨g,i,none⟩ u):=h.sim (Sim.set G lo hi N W hg i u)
theorem Off.set3 (h:Off G lo hi N p W) {g:Nat} (hg:lo≤g∧g<hi∨N≤g) (x y z:Value):Off G lo hi N p (((W.setCell ⟨g,0,none⟩ x).setCell ⟨g,1,none⟩ y).setCell ⟨g,2,none⟩ z):=((h.set hg _ _).set hg _ _).set hg _ _
theorem Off.set4 (h:Off G lo hi N p W) {g:Nat} (hg:lo≤g∧g<hi∨N≤g) (x y z u:Value):Off G lo hi N p ((((W.setCell ⟨g,0,none⟩ x).setCell ⟨g,1,none⟩ y).setCell ⟨g,2,none⟩ z).setCell ⟨g,3,none⟩ u):=(h.set3 hg _ _ _).set hg _ _
theorem Off.alloc (h:Off G lo hi N p W) (o:Obj):Off G lo hi N p (W.alloc o):=h.call ((Below.refl _ _).alloc (Nat.le_refl _) o)
theorem Off.drew (h:Off G lo hi N p W):Off G lo hi N p W.drew:=h.sim (Sim.drew _ _ _ _ _)
theorem Off.grown (h:Off G lo hi N p W) {row:Option Nat} (k:W.grownBy W' row) (hr:∀k,row=some k→lo≤k∧k<hi∨N≤k):Off G lo hi N p W':=h.sim (Sim.grown k h.top hr)
theorem Off.up (h:Off G lo hi N p W) (hm:N≤M) (hM:M≤W.heap.size):Off G lo hi M p W:=⟨h.le,Nat.le_trans h.up_ hm,hM,h.gl,fun X hX=>h.all X (hX.mono hm)⟩
theorem Off.now (h:Off G lo hi N p W):Off G lo hi W.heap.size p W:=h.up h.top (Nat.le_refl _)
theorem Off.and (h:Off G lo hi N p W) (k:∀X,Sim G lo hi N W X→q X):Off G lo hi N (fun X=>p X∧q X) W:=⟨h.le,h.up_,h.top,h.gl,fun X hX=>⟨h.all X hX,k X hX⟩⟩
theorem Off.plus (h:Off G lo hi N p W) (k:∀X,Sim G lo hi W.heap.size W X→q X):Off G lo hi W.heap.size (fun X=>p X∧q X) W:=h.now.and k
theorem Off.mono (h:Off G lo hi N p W) (f:∀X,p X→q X):Off G lo hi N q W:=⟨h.le,h.up_,h.top,h.gl,fun X hX=>f X (h.all X hX)⟩
theorem jb {b i:Nat} {X:World} (h:X.heap[b]?=W.heap[b]?):X.cell? ⟨b,i,none⟩=W.cell? ⟨b,i,none⟩:=by simp [World.cell?,h]
theorem zk.low {A:Option Addr} {n c:Nat} {xs:List Num} (h:zk W A n c xs):∀q o,A=some ⟨q,o,none⟩→0<n→q<W.heap.size:=fun q o e hn=>by
 obtain ⟨b,o', e', hc⟩:=h.2.2 hn;rw [e] at e';cases e';have hl:0<xs.length:=by rw [h.1];exact hn
 exact World.block_lt_of_cell? W ⟨q,_,none⟩ (hc 0 _ (List.getElem?_eq_getElem hl)).1
theorem zU.low {A:Option Addr} {n c:Nat} {xs:List Int} (h:zU W A n c xs):∀q o,A=some ⟨q,o,none⟩→0<n→q<W.heap.size:=fun q o e hn=>by
 obtain ⟨b,o', e', hc⟩:=h.2.2 hn;rw [e] at e';cases e';have hl:0<xs.length:=by rw [h.1];exact hn
 exact World.block_lt_of_cell? W ⟨q,_,none⟩ (hc 0 _ (List.getElem?_eq_getElem hl))
theorem zk.off_ {A:Option Addr} {n c:Nat} {xs:List Num} (h:zk W A n c xs) (hf:∀b o,A=some ⟨b,o,none⟩→0<n→(b<lo∨hi≤b)∧b∉G):∀X,Sim G lo hi W.heap.size W X→zk X A n c xs :=
 fun X hX=>⟨h.1,h.2.1,fun hn=>by
  obtain ⟨b,o,e,hc⟩:=h.2.2 hn;have hlt:=h.low b o e hn;have hb:=hX.block b hlt (hf b o e hn).1 (hf b o e hn).2;exact ⟨b,o,e,fun k x hk=>by simp only [jb hb];exact hc k x hk⟩⟩
theorem zU.off_ {A:Option Addr} {n c:Nat} {xs:List Int} (h:zU W A n c xs) (hf:∀b o,A=some ⟨b,o,none⟩→0<n→(b<lo∨hi≤b)∧b∉G):∀X,Sim G lo hi W.heap.size W X→zU X A n c xs :=
 fun X hX=>⟨h.1,h.2.1,fun hn=>by
  obtain ⟨b,o,e,hc⟩:=h.2.2 hn;have hlt:=h.low b o e hn;have hb:=hX.block b hlt (hf b o e hn).1 (hf b o e hn).2;exact ⟨b,o,e,fun k x hk=>by simp only [jb hb];exact hc k x hk⟩⟩
theorem At.off_ {g:Nat} {t:TypeId} {cs:Array Value} (h:At W g t cs) (hg:g<lo∨hi≤g) (hG:g∉G):∀X,Sim G lo hi W.heap.size W X→At X g t cs:=fun X hX=>(hX.block g h.lt hg hG).trans h
theorem zk.off {A:Option Addr} {n c:Nat} {xs:List Num} (h:zk W A n c xs) (hf:∀b o,A=some ⟨b,o,none⟩→0<n→b<lo∨hi≤b):∀X,Sim [] lo hi W.heap.size W X→zk X A n c xs:=h.off_ fun b o e hn=>⟨hf b o e hn,by simp⟩
theorem zU.off {A:Option Addr} {n c:Nat} {xs:List Int} (h:zU W A n c xs) (hf:∀b o,A=some ⟨b,o,none⟩→0<n→b<lo∨hi≤b):∀X,Sim [] lo hi W.heap.size W X→zU X A n c xs:=h.off_ fun b o e hn=>⟨hf b o e hn,by simp⟩
theorem At.off {g:Nat} {t:TypeId} {cs:Array Value} (h:At W g t cs) (hg:g<lo∨hi≤g):∀X,Sim [] lo hi W.heap.size W X→At X g t cs:=h.off_ hg (by simp)
theorem Off.startG {k:Nat} (hG:∀q,q∈G→q<w.heap.size) (b:Below w.heap.size w W) (hz:W.heap.size=w.heap.size+k):Off G w.heap.size (w.heap.size+k) W.heap.size (fun X=>zD G w X) W :=
 ⟨by omega,by omega,Nat.le_refl _,hG,fun X hX=>⟨hX.os.trans b.os,hX.tape.trans b.tape,hX.output.trans b.output,Nat.le_trans b.size hX.size,fun k hk hq=>(hX.block k (by omega) (.inl hk) hq).trans (b.block k hk)⟩⟩
theorem Off.start {k:Nat} (b:Below w.heap.size w W) (hz:W.heap.size=w.heap.size+k):Off [] w.heap.size (w.heap.size+k) W.heap.size (fun X=>Below w.heap.size w X) W :=
 ⟨by omega,by omega,Nat.le_refl _,by simp,fun X hX=>b.trans ⟨hX.os,hX.tape,hX.output,hX.size,fun k hk=>hX.block k (by omega) (.inl hk) (by simp)⟩⟩
theorem Off.argN {k:Nat} (h:Off [] w.heap.size k W.heap.size p W) (b:Below w.heap.size w W) {A:Option Addr} {n c:Nat} {xs:List Num} (a:zk w A n c xs):Off [] w.heap.size k W.heap.size (fun X=>p X∧zk X A n c xs) W :=
 h.plus ((a.below b).off fun q o e hn=>.inl (a.low q o e hn))
theorem Off.argI {k:Nat} (h:Off [] w.heap.size k W.heap.size p W) (b:Below w.heap.size w W) {A:Option Addr} {n c:Nat} {xs:List Int} (a:zU w A n c xs):Off [] w.heap.size k W.heap.size (fun X=>p X∧zU X A n c xs) W :=
 h.plus ((a.below b).off fun q o e hn=>.inl (a.low q o e hn))
theorem Off.argA {k:Nat} (h:Off [] w.heap.size k W.heap.size p W) (b:Below w.heap.size w W) {g:Nat} {t:TypeId} {cs:Array Value} (a:At w g t cs):Off [] w.heap.size k W.heap.size (fun X=>p X∧At X g t cs) W :=
 h.plus ((a.below b).off (.inl a.lt))
theorem Off.out_G (h:Off G lo hi N p W) {b:Nat} (hb:lo≤b):b∉G:=fun hq=>by have:=h.gl b hq;omega
theorem Off.gotN (h:Off G lo hi N p W) (b:Below W.heap.size W W') {A:Option Addr} {n c:Nat} {xs:List Num} (a:zk W' A n c xs) (hf:∀q o,A=some ⟨q,o,none⟩→W.heap.size≤q):Off G lo hi W'.heap.size (fun X=>p X∧zk X A n c xs) W' :=
 (h.call b).plus (a.off_ fun q o e hn=>have hq:=Nat.le_trans h.hiw (hf q o e);⟨.inr hq,h.out_G (Nat.le_trans h.le hq)⟩)
theorem Off.gotO (h:Off G lo hi N p W) (b:Below W.heap.size W W') {A:Option Addr} {n c:Nat} {xs:List Num} (a:zH W' W.heap.size (.slice A n c) xs):Off G lo hi W'.heap.size (fun X=>p X∧zk X A n c xs) W' :=
 h.gotN b a.nums (zY a)
theorem Off.gotA (h:Off G lo hi N p W) (b:Below W.heap.size W W') {t:TypeId} {cs:Array Value} (a:zP W' W.heap.size [(t,cs)]):Off G lo hi W'.heap.size (fun X=>p X∧At X W.heap.size t cs) W' :=
 (h.call b).plus (a.1.off_ (.inr h.hiw) (h.out_G (Nat.le_trans h.le h.hiw)))
end
section
variable {W W' w:World} {g i:Nat}
theorem zP.mono:∀ {l:List (TypeId×Array Value)} {g:Nat},(∀k t cs,g≤k→k<g+l.length→At W k t cs→At W' k t cs)→zP W g l→zP W' g l
 | [],_,_,_=>trivial
 | b::l,g,f,h=>⟨f g _ _ (Nat.le_refl _) (by simp) h.1,zP.mono (fun k t cs h1 h2=>f k t cs (by omega) (by simp at h2 ⊢;omega)) h.2⟩
theorem zP.call {l:List (TypeId×Array Value)} (h:zP W g l) (k:Below W.heap.size W W'):zP W' g l:=h.mono fun _ _ _ _ _ a=>a.below k
theorem zP.far {l:List (TypeId×Array Value)} (h:zP W g l) {b:Nat} (hb:b<g∨g+l.length≤b) (i:Nat) (u:Value):zP (W.setCell ⟨b,i,none⟩ u) g l:=h.mono fun k _ _ h1 h2 a=>a.far (by show k≠b;omega) u
theorem zP.set:∀ {l:List (TypeId×Array Value)} {g:Nat} (i j:Nat) (u:Value),zP W g l→zP (W.setCell ⟨g+i,j,none⟩ u) g (l.modify i fun b=>(b.1,b.2.setIfInBounds j u))
 | [],_,i,_,_,_=>by cases i<;>trivial
 | b::l,g,0,j,u,h=>⟨h.1.set j u rfl,h.2.far (by omega) _ _⟩
 | b::l,g,i+1,j,u,h=>⟨h.1.far (by show g≠g+(i+1);omega) u,by
  have:=zP.set i j u h.2;rw [show g+(i+1)=g+1+i by omega];exact this⟩
theorem zP.at_:∀ {l:List (TypeId×Array Value)} {g:Nat} (i:Nat) {t:TypeId} {cs:Array Value},zP W g l→l[i]?=some (t,cs)→At W (g+i) t cs
 | b::l,g,0,t,cs,h,e=>by simp at e;subst e;exact h.1
 | b::l,g,i+1,t,cs,h,e=>by rw [show g+(i+1)=g+1+i by omega];exact zP.at_ i h.2 (by simpa using e)
theorem zP.off {l:List (TypeId×Array Value)} {lo hi:Nat} (h:zP W g l) (hg:hi≤g) (hG:∀q,q∈G→q<hi):∀X,Sim G lo hi W.heap.size W X→zP X g l:=fun X hX=>h.mono fun k t cs h1 _ a=>(hX.block k a.lt (.inr (by omega)) (fun hq=>by have:=hG k hq;omega)).trans a
theorem Off.gotB {lo hi N:Nat} {p:World→Prop} {l:List (TypeId×Array Value)} (h:Off G lo hi N p W) (b:Below W.heap.size W W') (a:zP W' W.heap.size l):Off G lo hi W'.heap.size (fun X=>p X∧zP X W.heap.size l) W' :=
 (h.call b).plus (a.off h.hiw (fun q hq=>Nat.lt_of_lt_of_le (h.gl q hq) h.le))
theorem zP.put:∀ {l:List (TypeId×Array Value)} {g:Nat} (i:Nat) (b':TypeId×Array Value),zP W g l→(∀k,k≠g+i→W'.heap[k]?=W.heap[k]?)→At W' (g+i) b'.1 b'.2→zP W' g (l.set i b')
 | [],_,i,_,_,_,_=>by cases i<;>trivial
 | b::l,g,0,b', h,hk,ha=>⟨ha,h.2.mono fun k t cs h1 h2 a=>(hk k (by omega)).trans a⟩
 | b::l,g,i+1,b', h,hk,ha=>⟨(hk g (by omega)).trans h.1,zP.put i b' h.2 (fun k hne=>hk k (by omega)) (by rw [show g+1+i=g+(i+1) by omega];exact ha)⟩
theorem qF {b i k:Nat} {u:Value} (h:k≠b):(W.setCell ⟨b,i,none⟩ u).heap[k]?=W.heap[k]?:=Below.heap_setCell W ⟨b,i,none⟩ u k h
theorem zP.put4 {l:List (TypeId×Array Value)} (h:zP W g l) (i:Nat) {t:TypeId} {a b c d:Value} (e:l[i]?=some (t,#[a,b,c,d])) (x y z u:Value):zP ((((W.setCell ⟨g+i,0,none⟩ x).setCell ⟨g+i,1,none⟩ y).setCell ⟨g+i,2,none⟩ z).setCell ⟨g+i,3,none⟩ u) g (l.set i (t,#[x,y,z,u])) :=
 h.put i _ (fun k hk=>by rw [qF hk,qF hk,qF hk,qF hk]) ((h.at_ i e).set4 x y z u)
theorem At.set8 {t:TypeId} {q0 q1 q2 q3 q4 q5 q6 q7:Value} (h:At W g t #[q0,q1,q2,q3,q4,q5,q6,q7]) (a b c d a' b' c' d':Value):At ((((((((W.setCell ⟨g,0,none⟩ a).setCell ⟨g,1,none⟩ b).setCell ⟨g,2,none⟩ c).setCell ⟨g,3,none⟩ d).setCell ⟨g,4,none⟩ a').setCell ⟨g,5,none⟩ b').setCell ⟨g,6,none⟩ c').setCell ⟨g,7,none⟩ d') g t #[a,b,c,d,a', b', c', d'] :=
 by
  have h0:At _ g t #[a,q1,q2,q3,q4,q5,q6,q7]:=h.set 0 a rfl;have h1:At _ g t #[a,b,q2,q3,q4,q5,q6,q7]:=h0.set 1 b rfl;have h2:At _ g t #[a,b,c,q3,q4,q5,q6,q7]:=h1.set 2 c rfl;have h3:At _ g t #[a,b,c,d,q4,q5,q6,q7]:=h2.set 3 d rfl;have h4:At _ g t #[a,b,c,d,a', q5,q6,q7]:=h3.set 4 a' rfl;have h5:At _ g t #[a,b,c,d,a', b', q6,q7]:=h4.set 5 b' rfl
  have h6:At _ g t #[a,b,c,d,a', b', c', q7]:=h5.set 6 c' rfl;have h7:At _ g t #[a,b,c,d,a', b', c', d']:=h6.set 7 d' rfl;exact h7
theorem At.eight {t:TypeId} {a b c d a' b' c' d':Value} (h:At W g t #[a,b,c,d,a', b', c', d']):W.cell? ⟨g,0,none⟩=some a∧W.cell? ⟨g,1,none⟩=some b∧W.cell? ⟨g,2,none⟩=some c∧W.cell? ⟨g,3,none⟩=some d∧W.cell? ⟨g,4,none⟩=some a'∧W.cell? ⟨g,5,none⟩=some b'∧W.cell? ⟨g,6,none⟩=some c'∧W.cell? ⟨g,7,none⟩=some d':=⟨h.cell 0,h.cell 1,h.cell 2,h.cell 3,h.cell 4,h.cell 5,h.cell 6,h.cell 7⟩
theorem zP.put8 {l:List (TypeId×Array Value)} (h:zP W g l) (i:Nat) {t:TypeId} {q0 q1 q2 q3 q4 q5 q6 q7:Value} (e:l[i]?=some (t,#[q0,q1,q2,q3,q4,q5,q6,q7])) (a b c d a' b' c' d':Value):zP ((((((((W.setCell ⟨g+i,0,none⟩ a).setCell ⟨g+i,1,none⟩ b).setCell ⟨g+i,2,none⟩ c).setCell ⟨g+i,3,none⟩ d).setCell ⟨g+i,4,none⟩ a').setCell ⟨g+i,5,none⟩ b').setCell ⟨g+i,6,none⟩ c').setCell ⟨g+i,7,none⟩ d') g (l.set i (t,#[a,b,c,d,a', b', c', d'])) :=
 h.put i _ (fun k hk=>by rw [qF hk,qF hk,qF hk,qF hk,qF hk,qF hk,qF hk,qF hk]) ((h.at_ i e).set8 a b c d a' b' c' d')
theorem Off.set8 {lo hi N:Nat} {p:World→Prop} (h:Off G lo hi N p W) {g:Nat} (hg:lo≤g∧g<hi∨N≤g) (a b c d a' b' c' d':Value):Off G lo hi N p ((((((((W.setCell ⟨g,0,none⟩ a).setCell ⟨g,1,none⟩ b).setCell ⟨g,2,none⟩ c).setCell ⟨g,3,none⟩ d).setCell ⟨g,4,none⟩ a').setCell ⟨g,5,none⟩ b').setCell ⟨g,6,none⟩ c').setCell ⟨g,7,none⟩ d'):=(((((((h.set hg _ _).set hg _ _).set hg _ _).set hg _ _).set hg _ _).set hg _ _).set hg _ _).set hg _ _
theorem zP.far3 {l:List (TypeId×Array Value)} (h:zP W g l) {b:Nat} (hb:g+l.length≤b) (x y z:Value):zP (((W.setCell ⟨b,0,none⟩ x).setCell ⟨b,1,none⟩ y).setCell ⟨b,2,none⟩ z) g l:=((h.far (.inr hb) _ _).far (.inr hb) _ _).far (.inr hb) _ _
theorem zP.far4 {l:List (TypeId×Array Value)} (h:zP W g l) {b:Nat} (hb:g+l.length≤b) (x y z u:Value):zP ((((W.setCell ⟨b,0,none⟩ x).setCell ⟨b,1,none⟩ y).setCell ⟨b,2,none⟩ z).setCell ⟨b,3,none⟩ u) g l:=(h.far3 hb _ _ _).far (.inr hb) _ _
theorem z6 {a0:Array Value} {t0:TypeId} (e:(w.alloc (.cells a0 t0))=W):zP W w.heap.size [(t0,a0)]∧Below w.heap.size w W∧W.heap.size=w.heap.size+1:=by
 subst e;exact ⟨⟨At.new w t0 a0,trivial⟩,zg (Below.refl _ _) _,by rw [World.size_alloc]⟩
theorem zP.snoc_:∀ {l:List (TypeId×Array Value)} {g:Nat} {t:TypeId} {a:Array Value},zP W g l→W.heap.size=g+l.length→zP (W.alloc (.cells a t)) g (l++[(t,a)])
 | [],g,t,a,h,e=>⟨by have:=At.new W t a;rw [e] at this;exact this,trivial⟩
 | b::l,g,t,a,h,e=>⟨h.1.alloc _,zP.snoc_ h.2 (by rw [e];simp;omega)⟩
theorem zP.snoc {l:List (TypeId×Array Value)} {g:Nat} {t:TypeId} {a:Array Value} (h:zP W g l) (e:W.heap.size=g+l.length):zP (W.alloc (.cells a t)) g (l++[(t,a)]):=h.snoc_ e
theorem y7 {a0 a1:Array Value} {t0 t1:TypeId} (e:((w.alloc (.cells a0 t0)).alloc (.cells a1 t1))=W):zP W w.heap.size [(t0,a0),(t1,a1)]∧Below w.heap.size w W∧W.heap.size=w.heap.size+2:=by
 obtain ⟨h1,h2,h3⟩:=z6 (rfl:(w.alloc (.cells a0 t0))=(w.alloc (.cells a0 t0)));exact XaU
theorem Jq {a0 a1 a2:Array Value} {t0 t1 t2:TypeId} (e:(((w.alloc (.cells a0 t0)).alloc (.cells a1 t1)).alloc (.cells a2 t2))=W):zP W w.heap.size [(t0,a0),(t1,a1),(t2,a2)]∧Below w.heap.size w W∧W.heap.size=w.heap.size+3:=by
 obtain ⟨h1,h2,h3⟩:=y7 (rfl:((w.alloc (.cells a0 t0)).alloc (.cells a1 t1))=((w.alloc (.cells a0 t0)).alloc (.cells a1 t1)));exact XaU
theorem zhi {a0 a1 a2 a3:Array Value} {t0 t1 t2 t3:TypeId} (e:((((w.alloc (.cells a0 t0)).alloc (.cells a1 t1)).alloc (.cells a2 t2)).alloc (.cells a3 t3))=W):zP W w.heap.size [(t0,a0),(t1,a1),(t2,a2),(t3,a3)]∧Below w.heap.size w W∧W.heap.size=w.heap.size+4:=by
 obtain ⟨h1,h2,h3⟩:=Jq (rfl:(((w.alloc (.cells a0 t0)).alloc (.cells a1 t1)).alloc (.cells a2 t2))=(((w.alloc (.cells a0 t0)).alloc (.cells a1 t1)).alloc (.cells a2 t2)));exact XaU
theorem zkR {a0 a1 a2 a3 a4:Array Value} {t0 t1 t2 t3 t4:TypeId} (e:(((((w.alloc (.cells a0 t0)).alloc (.cells a1 t1)).alloc (.cells a2 t2)).alloc (.cells a3 t3)).alloc (.cells a4 t4))=W):zP W w.heap.size [(t0,a0),(t1,a1),(t2,a2),(t3,a3),(t4,a4)]∧Below w.heap.size w W∧W.heap.size=w.heap.size+5:=by
 obtain ⟨h1,h2,h3⟩:=zhi (rfl:((((w.alloc (.cells a0 t0)).alloc (.cells a1 t1)).alloc (.cells a2 t2)).alloc (.cells a3 t3))=((((w.alloc (.cells a0 t0)).alloc (.cells a1 t1)).alloc (.cells a2 t2)).alloc (.cells a3 t3)));exact XaU
theorem zlD {a0 a1 a2 a3 a4 a5:Array Value} {t0 t1 t2 t3 t4 t5:TypeId} (e:((((((w.alloc (.cells a0 t0)).alloc (.cells a1 t1)).alloc (.cells a2 t2)).alloc (.cells a3 t3)).alloc (.cells a4 t4)).alloc (.cells a5 t5))=W):zP W w.heap.size [(t0,a0),(t1,a1),(t2,a2),(t3,a3),(t4,a4),(t5,a5)]∧Below w.heap.size w W∧W.heap.size=w.heap.size+6:=by
 obtain ⟨h1,h2,h3⟩:=zkR (rfl:(((((w.alloc (.cells a0 t0)).alloc (.cells a1 t1)).alloc (.cells a2 t2)).alloc (.cells a3 t3)).alloc (.cells a4 t4))=(((((w.alloc (.cells a0 t0)).alloc (.cells a1 t1)).alloc (.cells a2 t2)).alloc (.cells a3 t3)).alloc (.cells a4 t4)));exact XaU
end
theorem zd {G:List Nat} {lo hi N:Nat} {p:World→Prop} {W W':World} (h:Hid (Off G lo hi N p W)) (k:Below W.heap.size W W'):Hid (Off G lo hi N p W'):=za (h.out.call k)
theorem ze {W W':World} {g:Nat} {l:List (TypeId×Array Value)} (h:Hid (zP W g l)) (k:Below W.heap.size W W'):Hid (zP W' g l):=za (h.out.call k)
end
section
variable {G:List Nat} {lo hi N g:Nat} {p q:World→Prop} {W W' w w':World}
theorem Off.touch (h:Off G lo hi N p W) (k:zD G W W'):Off G lo hi N p W':=h.sim ⟨k.os,k.tape,k.output,k.size,fun i hi _ hG=>k.block i (Nat.lt_of_lt_of_le hi h.top) hG⟩
theorem Off.mk0 (hle:lo≤hi) (hh:hi≤W.heap.size) (k:∀X,Sim [] lo hi W.heap.size W X→q X):Off [] lo hi W.heap.size q W:=⟨hle,hh,Nat.le_refl _,by simp,k⟩
theorem zP.touch {l:List (TypeId×Array Value)} (h:zP W g l) (k:zD G W W') (hG:∀q,q∈G→q<g):zP W' g l:=h.mono fun b _ _ h1 _ a=>(k.block b a.lt (fun hq=>by have:=hG b hq;omega)).trans a
theorem qy.off {B:Nat} {v:Value} {R:List Row} {k:Nat} (h:qy W B v R k) (hv:∀q,v.ownBlock=some q→q<lo) (hr:∀r,r∈R→r.g<lo):∀X,Sim [] lo hi W.heap.size W X→qy X B v R k :=
 fun X hX=>h.same (fun q e=>hX.block q (World.ownsRow.lt h.box q e).2 (.inl (hv q e)) (by simp)) (fun r hm=>hX.block _ (ZE (h.rows r hm)).2 (.inl (hr r hm)) (by simp))
theorem zH.offl {B:Nat} {v:Value} {xs:List Num} (h:zH W B v xs) (hv:∀q,v.ownBlock=some q→q<lo):∀X,Sim [] lo hi W.heap.size W X→zH X B v xs :=
 fun X hX=>vZ h (fun q e=>hX.block q (World.ownsRow.lt h q e).2 (.inl (hv q e)) (by simp))
theorem zD.call (h:zD G w W) (k:Below W.heap.size W W'):zD G w W':=h.below k
theorem zD.set4 (h:zD G w W) (hg:g∈G∨w.heap.size≤g) (x y z u:Value):zD G w ((((W.setCell ⟨g,0,none⟩ x).setCell ⟨g,1,none⟩ y).setCell ⟨g,2,none⟩ z).setCell ⟨g,3,none⟩ u):=(((h.set hg _ _).set hg _ _).set hg _ _).set hg _ _
structure z7 (g:Nat) (w w':World):Prop where
 os:w'.os=w.os
 tape:w'.tape=w.tape
 output:w'.output=w.output
 size:w'.heap.size=w.heap.size
 block:∀k,k≠g→w'.heap[k]?=w.heap[k]?
theorem z7.set (g i:Nat) (w:World) (u:Value):z7 g w (w.setCell ⟨g,i,none⟩ u):=⟨rfl,rfl,rfl,by simp [World.setCell],fun k hk=>Below.heap_setCell w ⟨g,i,none⟩ u k hk⟩
theorem z7.trans {a b c:World} (h:z7 g a b) (k:z7 g b c):z7 g a c:=⟨k.os.trans h.os,k.tape.trans h.tape,k.output.trans h.output,k.size.trans h.size,fun i hi=>(k.block i hi).trans (h.block i hi)⟩
theorem z7.set4 (g a b c d:Nat) (w:World) (x y z u:Value):z7 g w ((((w.setCell ⟨g,a,none⟩ x).setCell ⟨g,b,none⟩ y).setCell ⟨g,c,none⟩ z).setCell ⟨g,d,none⟩ u):=(((z7.set g a w x).trans (z7.set g b _ y)).trans (z7.set g c _ z)).trans (z7.set g d _ u)
theorem z7.all4 (g:Nat) (w:World) (x0 x1 x2 x3:Value):z7 g w ((((w.setCell ⟨g,0,none⟩ x0).setCell ⟨g,1,none⟩ x1).setCell ⟨g,2,none⟩ x2).setCell ⟨g,3,none⟩ x3):=(((z7.set g 0 w x0).trans (z7.set g 1 _ x1)).trans (z7.set g 2 _ x2)).trans (z7.set g 3 _ x3)
theorem z7.all8 (g:Nat) (w:World) (x0 x1 x2 x3 x4 x5 x6 x7:Value):z7 g w ((((((((w.setCell ⟨g,0,none⟩ x0).setCell ⟨g,1,none⟩ x1).setCell ⟨g,2,none⟩ x2).setCell ⟨g,3,none⟩ x3).setCell ⟨g,4,none⟩ x4).setCell ⟨g,5,none⟩ x5).setCell ⟨g,6,none⟩ x6).setCell ⟨g,7,none⟩ x7):=(((((((z7.set g 0 w x0).trans (z7.set g 1 _ x1)).trans (z7.set g 2 _ x2)).trans (z7.set g 3 _ x3)).trans (z7.set g 4 _ x4)).trans (z7.set g 5 _ x5)).trans (z7.set g 6 _ x6)).trans (z7.set g 7 _ x7)
theorem At.set1 {t:TypeId} {c:Value} (h:At W g t #[c]) (x:Value):At (W.setCell ⟨g,0,none⟩ x) g t #[x]:=h.set 0 x rfl
theorem z7.touch (h:z7 g W W') (hg:g∈G):zD G W W':=⟨h.os,h.tape,h.output,Nat.le_of_eq h.size.symm,fun k _ hk=>h.block k (fun e=>hk (e▸hg))⟩
theorem z7.sim (h:z7 g W W') (hg:lo≤g∧g<hi∨N≤g):Sim G lo hi N W W':=⟨h.os,h.tape,h.output,Nat.le_of_eq h.size.symm,fun k hk hx _=>h.block k (fun e=>by omega)⟩
theorem z7.own {B:Nat} {v:Value} {xs:List Num} (h:z7 g W W') (k:zH W B v xs) (hv:v.ownBlock≠some g):zH W' B v xs:=vZ k (fun q e=>h.block q (fun e'=>hv (by rw [e,e'])))
theorem z7.at_ {b:Nat} {t:TypeId} {cs:Array Value} (h:z7 g W W') (k:At W b t cs) (hb:b≠g):At W' b t cs:=(h.block b hb).trans k
theorem z7.nums {A:Option Addr} {n c:Nat} {xs:List Num} (h:z7 g W W') (k:zk W A n c xs) (hA:∀b o,A=some ⟨b,o,none⟩→0<n→b≠g):zk W' A n c xs :=
 ⟨k.1,k.2.1,fun hn=>by
  obtain ⟨b,o,e,hc⟩:=k.2.2 hn;exact ⟨b,o,e,fun i x hx=>by simp only [jb (h.block b (hA b o e hn))];exact hc i x hx⟩⟩
theorem qy.upd {B:Nat} {v:Value} {R:List Row} {k i:Nat} {r:Row} (h:qy W B v R k) (hi:R[i]?=some r) {ys:List Num} (hy:ys.length=r.xs.length) (ho:z7 r.g W W') (hr:zH W' B (.slice (some ⟨r.g,0,none⟩) r.xs.length r.cap) ys):qy W' B v (R.set i ⟨r.g,r.cap,ys⟩) k:=by
 have hm:r∈R:=List.mem_of_getElem? hi;have hil:i<R.length:=(List.getElem?_eq_some_iff.1 hi).1
 have hv:(R.set i ⟨r.g,r.cap,ys⟩).map Row.v=R.map Row.v:=by
  apply List.ext_getElem?;intro j;rw [List.getElem?_map,List.getElem?_map,List.getElem?_set]
  by_cases e:i=j
  ·subst e;simp only [if_true,hil,hi,Option.map_some,Row.v,hy]
  ·rw [if_neg e]
 refine ⟨?_,?_,?_⟩
 ·rw [hv,List.length_set]
  exact zag h.box (fun q e=>ho.block q (fun e'=>zgC h.box (h.rows r hm) (by rw [e,e'])))
 ·intro s hs
  obtain ⟨j,hj⟩:=List.getElem?_of_mem hs;rw [List.getElem?_set] at hj
  by_cases e:i=j
  ·rw [if_pos e,if_pos hil] at hj
   have hj:=Option.some.inj hj;subst hj;show zH W' B (.slice (some ⟨r.g,0,none⟩) ys.length r.cap) ys;rw [hy];exact hr
  ·rw [if_neg e] at hj
   exact vZ (h.rows s (List.mem_of_getElem? hj)) (fun q e'=>by cases e';exact ho.block _ (zka h.apart hj hi (fun x=>e x.symm)))
 ·have:(R.set i ⟨r.g,r.cap,ys⟩).map Row.g=R.map Row.g:=by
   apply List.ext_getElem?;intro j;rw [List.getElem?_map,List.getElem?_map,List.getElem?_set]
   by_cases e:i=j
   ·subst e;simp only [if_true,hil,hi,Option.map_some]
   ·rw [if_neg e]
  rw [this];exact h.apart
theorem zH.put_ {B n c:Nat} {xs:List Num} (h:zH W B (.slice (some ⟨g,0,none⟩) n c) xs) (j:Nat) (hj:j<xs.length) (y:Num) (o1 o2 o3 o4:Nat) (e1:o1=j*4) (e2:o2=j*4+1) (e3:o3=j*4+2) (e4:o4=j*4+3) :
  zH ((((W.setCell ⟨g,o1,none⟩ y.v).setCell ⟨g,o2,none⟩ y.l).setCell ⟨g,o3,none⟩ y.h).setCell ⟨g,o4,none⟩ y.bad) B (.slice (some ⟨g,0,none⟩) n c) (xs.set j y):=by
 subst e1 e2 e3 e4;exact h.put j hj y
theorem zH.num {B n c:Nat} {xs:List Num} (h:zH W B (.slice (some ⟨g,0,none⟩) n c) xs) {j:Nat} {x:Num} (hx:xs[j]?=some x) :
  W.cell? ⟨g,j*4,none⟩=some (.int .i64 x.v)∧W.cell? ⟨g,j*4+1,none⟩=some (.int .i64 x.l)∧W.cell? ⟨g,j*4+2,none⟩=some (.int .i64 x.h)∧W.cell? ⟨g,j*4+3,none⟩=some (.bool x.bad):=by
 obtain ⟨b,o,e,hc⟩:=h.nums.2.2 (by have:=(List.getElem?_eq_some_iff.1 hx).1;have:=zL h;omega);cases e;have:=hc j x hx
 simpa using this
theorem zH.frozen {B n c:Nat} {xs:List Num} (h:zH W B (.slice (some ⟨g,0,none⟩) n c) xs) (a:Nat):W.frozen? ⟨g,a,none⟩=false:=by
 have hn:=zL h;subst hn;exact World.ownsRow.frozenAt (show W.ownsRow B 71 4 (.slice (some ⟨g,0,none⟩) xs.length c) xs.length (xs.flatMap Num.cs) from h) a
theorem qy.cell {B vg n vc i:Nat} {R:List Row} {r:Row} (h:qy W B (.slice (some ⟨vg,0,none⟩) n vc) R 0) (hi:R[i]?=some r):W.cell? ⟨vg,i,none⟩=some (.slice (some ⟨r.g,0,none⟩) r.xs.length r.cap):=by
 obtain ⟨q,cap,e,hc,_⟩:=h.at_ hi;cases e;exact hc
theorem zgv {A:Option Addr} {n c:Nat} {xs:List Num} (h:zk W A n c xs) (hn:0<n):∃ad,A=some ad∧∀j v,(xs.flatMap Num.cs)[j]?=some v→W.cell? (ad.add j)=some v:=by
 obtain ⟨b,o,e,hc⟩:=h.2.2 hn;refine ⟨_,e,fun j v hv=>?_⟩;have hj:j<xs.length*4:=by rw [←jB];exact (List.getElem?_eq_some_iff.1 hv).1
 have hk:j / 4<xs.length:=by omega
 obtain ⟨x,hx⟩:∃x,xs[j / 4]?=some x:=⟨_,List.getElem?_eq_getElem hk⟩
 have hf:=zbq hx (j%4) (by omega);rw [show j / 4*4+j%4=j by omega,hv] at hf;obtain ⟨c0,c1,c2,c3⟩:=hc _ _ hx
 have hadd:(⟨b,o,none⟩:Addr).add j=⟨b,o+j / 4*4+j%4,none⟩:=by
  have:o+j=o+j / 4*4+j%4:=by omega
  unfold Addr.add;split<;>simp_all
 rw [hadd]
 match hm:j%4,(by omega:j%4<4) with
 | 0,_=>rw [hm] at hf;simp [Num.cs] at hf;rw [hf];exact c0
 | 1,_=>rw [hm] at hf;simp [Num.cs] at hf;rw [hf];exact c1
 | 2,_=>rw [hm] at hf;simp [Num.cs] at hf;rw [hf];exact c2
 | 3,_=>rw [hm] at hf;simp [Num.cs] at hf;rw [hf];exact c3
theorem zhN (xs:List Num):∀v∈xs.flatMap Num.cs,v.oneCell'=true:=by
 intro v hv;obtain ⟨x,_,h⟩:=List.mem_flatMap.1 hv;simp [Num.cs] at h;rcases h with rfl|rfl|rfl|rfl<;>rfl
theorem zfp (xs ys:List Num) (a:Nat) (h:a+ys.length≤xs.length):(xs.flatMap Num.cs).take (a*4)++ys.flatMap Num.cs++(xs.flatMap Num.cs).drop (a*4+(ys.flatMap Num.cs).length)=(xs.take a++ys++xs.drop (a+ys.length)).flatMap Num.cs:=by
 have ht:∀(l:List Num) (k:Nat),k≤l.length→(l.flatMap Num.cs).take (k*4)=(l.take k).flatMap Num.cs:=by
  intro l k hk
  conv=>lhs;rw [←List.take_append_drop k l]
  rw [List.flatMap_append,List.take_append_of_le_length (by rw [jB,List.length_take];omega)];exact List.take_of_length_le (by rw [jB,List.length_take];omega)
 have hd:∀(l:List Num) (k:Nat),k≤l.length→(l.flatMap Num.cs).drop (k*4)=(l.drop k).flatMap Num.cs:=by
  intro l k hk
  conv=>lhs;rw [←List.take_append_drop k l]
  rw [List.flatMap_append,List.drop_append_of_le_length (by rw [jB,List.length_take];omega)];rw [List.drop_of_length_le (by rw [jB,List.length_take];omega),List.nil_append]
 rw [ht xs a (by omega),jB,←Nat.add_mul,hd xs _ h,List.flatMap_append,List.flatMap_append]
theorem zdS {B n cap a m dcap:Nat} {A:Option Addr} {c:Nat} {xs ys:List Num} (hrow:zH W B (.slice (some ⟨g,0,none⟩) n cap) xs) (hsrc:zk W A m c ys) (hfit:a+m≤n) :
  ∃W', (Builtin.copy_ #[63,63] 3 #[.slice (some ⟨g,a*4,none⟩) m dcap,.slice A m c]).run Tryz.prog W=.ok (goInt m) W'∧z7 g W W'∧zH W' B (.slice (some ⟨g,0,none⟩) n cap) (xs.take a++ys++xs.drop (a+m)):=by
 have hn:n=xs.length:=zL hrow;have hm:ys.length=m:=hsrc.1;obtain ⟨i,hi,hzz⟩:=Option.map_eq_some_iff.1 Y7;simp only [Prod.mk.injEq] at hzz;obtain ⟨_,h2,_⟩:=hzz
 by_cases h0:m=0
 ·subst h0
  obtain rfl:ys=[]:=List.eq_nil_of_length_eq_zero hm;refine ⟨W,?_,⟨rfl,rfl,rfl,rfl,fun _ _=>rfl⟩,by simpa using hrow⟩;cases A<;>simp [Builtin.copy_,run_underlying Tryz.underlying63,Builtin.lenOf,Builtin.firstCells,sizeOf,typeInfo,hi,storeCells,loadCells,loadCellsFrom]
 ·obtain ⟨ad,rfl,hc⟩:=zgv hsrc (by omega)
  rcases hrow.2 with ⟨e,_⟩|⟨g', cap', cur,e,hB,hg,hnc,hcm,hcs,ht⟩
  ·cases e
  ·obtain ⟨rfl,rfl,rfl⟩:g=g'∧n=xs.length∧cap=cap':=by simpa using e
   have hl:=run_loadCells_list (P:=Tryz.prog) W ad (ys.flatMap Num.cs) hc;have hst:=run_storeCells_at Tryz.prog g (a*4) 71 (ys.flatMap Num.cs) 0 cur W hg (by rw [jB];omega) (zhN ys);refine ⟨W.setRow g (cur.toList.take (a*4+0)++ys.flatMap Num.cs++cur.toList.drop (a*4+0+(ys.flatMap Num.cs).length)).toArray,?_,⟨rfl,rfl,rfl,by simp [World.setRow],fun k hk=>setRow_other W g k _ (fun e=>hk e)⟩,?_⟩
   ·rw [←hm]
    rw [jB] at hl;simp only [Builtin.copy_];simp only [Builtin.lenOf,Builtin.firstCells,sizeOf,typeInfo,hi,h2,Nat.min_self];simp [run_underlying Tryz.underlying63,hi,h2,hl];rw [hst];simp [Result.andThen]
   ·have hlen:(xs.take a++ys++xs.drop (a+m)).length=xs.length:=by simp;omega
    have hfl:=zfp xs ys a (by omega);rw [hm] at hfl;have hx:(xs.flatMap Num.cs).length=xs.length*4:=jB xs;have hy:(ys.flatMap Num.cs).length=m*4:=by rw [jB,hm]
    have e1:cur.toList=(xs.flatMap Num.cs)++cur.toList.drop (xs.length*4):=by rw [←ht,List.take_append_drop]
    have e2:cur.toList.length=cap*4:=by simpa using hcs
    have hd:xs.length*4=(xs.take a++ys++xs.drop (a+m)).length*4:=by rw [hlen]
    obtain ⟨ry,hry⟩:=zc ((xs.take a++ys++xs.drop (a+m)).flatMap Num.cs);have hl2:(xs.take a++ys++xs.drop (a+m)).length=xs.length∧ry.length=xs.length*4:=⟨hlen,by rw [←hry,jB,hlen]⟩
    unfold zH;rw [hry] at hfl ⊢;rw [hlen];obtain ⟨fy,hfy⟩:=zc (ys.flatMap Num.cs);obtain ⟨fx,hfx⟩:=zc (xs.flatMap Num.cs);obtain ⟨rs,hrs⟩:=zc (cur.toList.drop (xs.length*4));have e3:rs.length=cap*4-xs.length*4:=by rw [←hrs,List.length_drop,e2]
    rw [hfy] at hfl hy ⊢;rw [hfx] at hfl hx e1;rw [hrs] at e1;refine ⟨hl2.2,.inr ⟨g,cap,_,rfl,hB,setRow_heap W g cur _ 71 _ hg,hnc,hcm,?_,?_⟩⟩
    ·simp only [List.size_toArray,List.length_append,List.length_take,List.length_drop,e2,hy];omega
    ·simp only [Nat.add_zero]
     rw [←hfl,e1];rw [show (fx++rs).take (a*4)=fx.take (a*4) from List.take_append_of_le_length (by omega),show (fx++rs).drop (a*4+fy.length)=fx.drop (a*4+fy.length)++rs from List.drop_append_of_le_length (by omega)];rw [←List.append_assoc,List.take_append_of_le_length (by simp only [List.length_append,List.length_take,List.length_drop];omega)];exact List.take_of_length_le (by simp only [List.length_append,List.length_take,List.length_drop];omega)
theorem zaH {o:Oper} {a:Act} {K:Act→World→Prop} {Q:Exit→Act→World→Prop} (d s:Operand)
  (ho:o.op=.call { callee:=.builtin .copy,args:=#[d,s],argTypes:=#[63,63] }) (hty:o.type=3) {B n cap b m dcap:Nat} {A:Option Addr} {c:Nat} {xs ys:List Num} (hd:a.eval d=.slice (some ⟨g,b*4,none⟩) m dcap) (hs:a.eval s=.slice A m c)
  (hrow:zH w B (.slice (some ⟨g,0,none⟩) n cap) xs) (hsrc:zk w A m c ys) (hfit:b+m≤n)
  (h:∀w', z7 g w w'→zH w' B (.slice (some ⟨g,0,none⟩) n cap) (xs.take b++ys++xs.drop (b+m))→K (a.put o.dst (goInt m)) w'):o.wp Tryz.prog a w K Q:=by
 obtain ⟨W', hrun,h1,h2⟩:=zdS (dcap:=dcap) hrow hsrc hfit;unfold Oper.wp;simp [execOp,ho,resolve,invoke,builtin,hd,hs,hty,hrun,Result.andThen];exact h W' h1 h2
theorem Ji {ops:Array Oper} {rest:List Oper} {o:Oper} {a:Act} {Q:Exit→Act→World→Prop} (hgd:o.guard=none) (d s:Operand)
  (ho:o.op=.call { callee:=.builtin .copy,args:=#[d,s],argTypes:=#[63,63] }) (hty:o.type=3) {B n cap b m dcap:Nat} {A:Option Addr} {c:Nat} {xs ys:List Num} (hd:a.eval d=.slice (some ⟨g,b*4,none⟩) m dcap) (hs:a.eval s=.slice A m c)
  (hrow:zH w B (.slice (some ⟨g,0,none⟩) n cap) xs) (hsrc:zk w A m c ys) (hfit:b+m≤n)
  (h:∀w', z7 g w w'→zH w' B (.slice (some ⟨g,0,none⟩) n cap) (xs.take b++ys++xs.drop (b+m))→wpList Tryz.prog ops Q rest (a.put o.dst (goInt m)) w'):wpList Tryz.prog ops Q (o::rest) a w :=
 wpList_plain hgd fun K hK=>zaH d s ho hty hd hs hrow hsrc hfit fun w' h1 h2=>hK _ _ (h w' h1 h2)
theorem zhS (n:Nat):(madeCells #[.int .i64 0,.int .i64 0,.int .i64 0,.bool false] (n*4)).toList=(List.replicate n qe).flatMap Num.cs:=by
 apply List.ext_getElem?;intro i
 by_cases hi:i<n*4
 ·have h1:(madeCells #[.int .i64 0,.int .i64 0,.int .i64 0,.bool false] (n*4)).toList[i]?=some (#[Value.int .i64 0,.int .i64 0,.int .i64 0,.bool false][i%4]!):=by
   unfold madeCells;rw [Array.toList_map,List.getElem?_map,Array.toList_range,List.getElem?_range hi];rfl
  have h2:=zbq (xs:=List.replicate n qe) (k:=i / 4) (x:=qe) (by rw [List.getElem?_replicate,if_pos (by omega)]) (i%4) (by omega);rw [show i / 4*4+i%4=i by omega] at h2;rw [h1,h2]
  match hm:i%4,(by omega:i%4<4) with
  | 0,_=>rfl
  | 1,_=>rfl
  | 2,_=>rfl
  | 3,_=>rfl
 ·rw [List.getElem?_eq_none (by rw [Array.length_toList,size_madeCells];omega),List.getElem?_eq_none (by rw [jB,List.length_replicate];omega)]
theorem zdm (n:Nat) (hn:n≤1000) (W:World):∃cs,(Instr.makeSlice 63 (.int .i64 (n:Int)) (.int .i64 (n:Int))).run Tryz.prog W=.ok (.slice (some ⟨W.heap.size,0,none⟩) n n) (W.alloc (.cells cs 71))∧zH (W.alloc (.cells cs 71)) W.heap.size (.slice (some ⟨W.heap.size,0,none⟩) n n) (List.replicate n qe):=by
 obtain ⟨i,hi,hzz⟩:=Option.map_eq_some_iff.1 Y7;simp only [Prod.mk.injEq] at hzz;obtain ⟨h1,h2,h3⟩:=hzz;have h:=run_make (P:=Tryz.prog) W 63 71 i _ Tryz.underlying63 hi h1 .i64 .i64 (n:Int) (n:Int) (by omega) (Int.le_refl _) (by rw [h3];omega) (by omega);have hq:=zhS n;refine ⟨_,by rw [h,Int.toNat_natCast,h2],?_⟩;refine ⟨by rw [jB],.inr ⟨W.heap.size,n,_,by rw [List.length_replicate],Nat.le_refl _,At.new W 71 _,by rw [List.length_replicate];exact Nat.le_refl _,by unfold maxLen;omega,by rw [size_madeCells],?_⟩⟩
 rw [List.length_replicate];rw [←hq];exact List.take_of_length_le (by rw [Array.length_toList,size_madeCells];exact Nat.le_refl _)
end
theorem Xa6 {P:Prop} (h:P:=by
 unfold Oper.wp execOp;simp only [ho,resolve,invoke,builtin,Sem.run_bind,Sem.run_pure,Result.andThen_ok,List.map_toArray,List.map_cons,List.map_nil,hs,hx,hr];exact h v' w' h2 h3 hat) : P := h
theorem zjj:(Tryz.prog.info? 63).map (fun i=>(i.zero,i.size,i.bytes))=some (some (.slice none 0 0),1,24):=by kernel_rfl
theorem ziH {ops:Array Oper} {rest:List Oper} {o:Oper} {a:Act} {Q:Exit→Act→World→Prop} {w:World} (hgd:o.guard=none) (s x:Operand)
  (ho:o.op=.call { callee:=.builtin .append,args:=#[s,x],argTypes:=#[131,131] }) (B:Nat) (v:Value) (cs:List Value) (y:Value) (g:Nat) (hs:a.eval s=v) (hown:w.ownsRow B 63 1 v cs.length cs)
  (hx:a.eval x=.slice (some ⟨g,0,none⟩) 1 1) (hy:At w g 63 #[y]) (hy1:y.oneCell'=true) (hl:cs.length≤1000) (hB:B≤w.heap.size)
  (h:∀v' w', w'.ownsRow B 63 1 v' (cs.length+1) (cs++[y])→w.grownBy w' v.ownBlock→(v'.ownBlock=v.ownBlock∨v'.ownBlock=some w.heap.size)→wpList Tryz.prog ops Q rest (a.put o.dst v') w'):wpList Tryz.prog ops Q (o::rest) a w:=by
 obtain ⟨i0,hi,hz0,hz1,hz2⟩:=info_parts zjj
 refine wpList_append_own_at w hgd s x 131 ho B 63 i0 (.slice none 0 0) 1 24 Tryz.underlying131 hi hz0 hz1 hz2 rfl (by decide) v cs.length cs hs hown ⟨g,0,none⟩ 1 1 [y] hx rfl
  (fun j u hj=>?_) (fun u hu=>by simp at hu;subst hu;exact hy1) (by unfold maxLen;omega) (by omega) hB ?_
 ·match j,hj with
  | 0,hj=>simp at hj;subst hj;exact hy.cell 0
  | j+1,hj=>simp at hj
 ·intro v' w' hown' hgrow _ hat
  exact h v' w' hown' hgrow hat
theorem qC {F:Fence} {n:Nat} {P:Program} {ops:Array Oper} {rest:List Oper} {o:Oper} {a:Act} {Q:Exit→Act→World→Prop} {w:World} (hF:zbk F) (hd:qY o=true) (hg:o.guard=none) (h:∀K:Act→World→Prop,(∀a' w', wpListIn F n P ops Q rest a' w'→K a' w')→o.wp P a w K Q):wpListIn F n P ops Q (o::rest) a w:=by
 unfold wpListIn;rw [if_pos (by simp [Region.wanted,hg])];exact hF.op hd (h _ fun _ _ h=>h)
theorem zcM {F:Fence} {n:Nat} {ops:Array Oper} {rest:List Oper} {a:Act} {Q:Exit→Act→World→Prop} {w:World} {dst:Option Tmp} {pos:String} {aft:Array Edge} {d s:Operand} (hF:zbk F)
  {g B k cap b m dcap:Nat} {A:Option Addr} {c:Nat} {xs ys:List Num} (hd:a.eval d=.slice (some ⟨g,b*4,none⟩) m dcap) (hs:a.eval s=.slice A m c) (hrow:zH w B (.slice (some ⟨g,0,none⟩) k cap) xs) (hsrc:zk w A m c ys) (hfit:b+m≤k)
  (h:∀w', z7 g w w'→zH w' B (.slice (some ⟨g,0,none⟩) k cap) (xs.take b++ys++xs.drop (b+m))→wpListIn F n Tryz.prog ops Q rest (a.put dst (goInt m)) w') :
  wpListIn F n Tryz.prog ops Q ({ dst:=dst,op:=.call { callee:=.builtin .copy,args:=#[d,s],argTypes:=#[63,63] },type:=3,pos:=pos,after:=aft,guard:=none }::rest) a w :=
 qC hF rfl rfl (fun K hK=>zaH d s rfl rfl hd hs hrow hsrc hfit (fun w' h1 h2=>hK _ _ (h w' h1 h2)))
theorem zbA {o:Oper} {a:Act} {K:Act→World→Prop} {Q:Exit→Act→World→Prop} {w:World} (s x:Operand)
  (ho:o.op=.call { callee:=.builtin .append,args:=#[s,x],argTypes:=#[131,131] }) (B:Nat) (v:Value) (cs:List Value) (y:Value) (g:Nat) (hs:a.eval s=v) (hown:w.ownsRow B 63 1 v cs.length cs)
  (hx:a.eval x=.slice (some ⟨g,0,none⟩) 1 1) (hy:At w g 63 #[y]) (hy1:y.oneCell'=true) (hl:cs.length≤1000) (hB:B≤w.heap.size)
  (h:∀v' w', w'.ownsRow B 63 1 v' (cs.length+1) (cs++[y])→w.grownBy w' v.ownBlock→(v'.ownBlock=v.ownBlock∨v'.ownBlock=some w.heap.size)→K (a.put o.dst v') w'):o.wp Tryz.prog a w K Q:=by
 obtain ⟨i0,hi,hz0,hz1,hz2⟩:=info_parts zjj
 obtain ⟨v', w', hr,h2,h3,_,hat⟩:=run_append_own_at (P:=Tryz.prog) w B 131 o.type 63 i0 _ 1 24 Tryz.underlying131 hi hz0 hz1 hz2 rfl (by decide) v cs.length cs hown ⟨g,0,none⟩ 1 1 [y] rfl
  (fun j u hj=>by
   rw [zkB]
   match j,hj with
   | 0,hj=>simp at hj;subst hj;exact hy.cell 0
   | j+1,hj=>simp at hj) (fun u hu=>by simp at hu;subst hu;exact hy1) (by unfold maxLen;omega) (by omega) hB
 exact Xa6
theorem zi2 {W W':World} {row:Option Nat} {B e z n:Nat} {v:Value} {xs:List Value} (h:W.ownsRow B e z v n xs) (hg:W.grownBy W' row) (hr:∀r,row=some r→∃o:Obj,W.heap[r]?=some o∧o.isCells=false):W'.ownsRow B e z v n xs:=by
 exact XaW
theorem qy.grown' {W W':World} {row:Option Nat} {B:Nat} {v:Value} {R:List Row} {k:Nat} (h:qy W B v R k) (hg:W.grownBy W' row) (hr:∀r,row=some r→∃o:Obj,W.heap[r]?=some o∧o.isCells=false):qy W' B v R k :=
 ⟨zi2 h.box hg hr,fun r hm=>j7 (h.rows r hm) hg hr,h.apart⟩
structure zcE (S:Nat→Prop) (W0:World) (h:Nat) (R:List Row) (v:Value) (W:World):Prop where
 box:At W h 131 #[v]
 tab:qy W W0.heap.size v R 0
 kb:KB S W0 W
theorem zcE.grown {S:Nat→Prop} {W0 W W':World} {h:Nat} {R:List Row} {v:Value} {row:Option Nat} (t:zcE S W0 h R v W) (hS:∀k,S k→k<W0.heap.size) (hgr:W.grownBy W' row) (hr:∀r,row=some r→W0.heap.size≤r∧∃o:Obj,W.heap[r]?=some o∧o.isCells=false):zcE S W0 h R v W' :=
 ⟨qf t.box hgr (fun r e=>(hr r e).2),t.tab.grown' hgr (fun r e=>(hr r e).2),YU t.kb hS (Nat.le_refl _) hgr (fun r e=>(hr r e).1)⟩
theorem zcE.below {S:Nat→Prop} {W0 W W':World} {h:Nat} {R:List Row} {v:Value} (t:zcE S W0 h R v W) (hS:∀k,S k→k<W0.heap.size) (hb:Below W.heap.size W W'):zcE S W0 h R v W' :=
 ⟨t.box.below hb,t.tab.below hb,t.kb.call hS hb⟩
theorem qy.nil (W:World) (B:Nat):qy W B (.slice none 0 0) [] 0:=⟨World.ownsRow_nil _ _ _ _,(fun r hr=>by cases hr),List.nodup_nil⟩
theorem zcE.app {S:Nat→Prop} {W0 W W4:World} {h q n c B':Nat} {R:List Row} {v v':Value} {xs:List Num} {o:Obj} (t:zcE S W0 h R v W) (hS:∀k,S k→k<W0.heap.size) (hh:¬S h) (hhl:h<W0.heap.size)
  (hx:zH W B' (.slice (some ⟨q,0,none⟩) n c) xs) (hq:W0.heap.size≤q) (hqr:∀r,r∈R→r.g≠q) (hqv:v.ownBlock≠some q)
  (hown:W4.ownsRow W0.heap.size 63 1 v' (R.length+1) (R.map Row.v++[.slice (some ⟨q,0,none⟩) n c])) (hgr:(W.alloc o).grownBy W4 v.ownBlock) (hat:v'.ownBlock=v.ownBlock∨v'.ownBlock=some (W.alloc o).heap.size) :
  zcE S W0 h (R++[⟨q,c,xs⟩]) v' (W4.setCell ⟨h,0,none⟩ v'):=by
 have hn:n=xs.length:=zL hx;subst hn;have hbox:=t.tab.box;have hvb:∀k,v.ownBlock=some k→W0.heap.size≤k∧k<W.heap.size:=fun k e=>World.ownsRow.lt hbox k e;have hlt:=fun k e=>World.ownsRow.lt hown k e;have hqW:q<W.heap.size:=(World.ownsRow.lt hx q rfl).2;have hWW:W.heap.size≤W4.heap.size:=by have:=hgr.size;simp at this;omega
 have keep:∀k,k<W.heap.size→v.ownBlock≠some k→k≠h→(W4.setCell ⟨h,0,none⟩ v').heap[k]?=W.heap[k]?:=fun k hk hne hkh=>by
  rw [qF hkh];exact (hgr.block k (by simp;omega) (fun e=>hne e.symm)).trans (Below.heap_alloc W o k hk)
 have hrow:∀k,v.ownBlock=some k→¬S k:=fun k e hk=>by have:=(hvb k e).1;have:=hS k hk;omega
 refine ⟨?_,⟨?_,?_,?_⟩,?_⟩
 ·have h1:At W4 h 131 #[v]:=(hgr.block h (by have:=t.kb.size;simp;omega) (fun e=>by have:=(hvb h e.symm).1;omega)).trans (t.box.alloc o)
  exact h1.set 0 v' rfl
 ·rw [List.length_append,List.length_singleton,Nat.add_zero,List.map_append,List.replicate_zero,List.append_nil]
  exact zag hown (fun k e=>qF (fun e'=>by have:=(hlt k e).1;omega))
 ·intro r hr
  rcases List.mem_append.1 hr with hr|hr
  ·have hl:=ZE (t.tab.rows r hr)
   exact vZ (t.tab.rows r hr) (fun k e=>by cases e;exact keep r.g hl.2 (fun e=>zgC hbox (t.tab.rows r hr) e) (by omega))
  ·rw [List.mem_singleton] at hr
   subst hr
   have h1:zH W W0.heap.size (.slice (some ⟨q,0,none⟩) xs.length c) xs:=by
    refine ⟨hx.1,?_⟩;rcases hx.2 with h0|⟨g,cap,cur,e,hg,r⟩
    ·exact .inl h0
    ·exact .inr ⟨g,cap,cur,e,by cases e;exact hq,r⟩
   exact vZ (v:=.slice (some ⟨q,0,none⟩) xs.length c) h1 (fun k e=>by cases e;exact keep q hqW hqv (by omega))
 ·rw [List.map_append]
  exact List.nodup_append.2 ⟨t.tab.apart,by simp,fun a ha b hb=>by
   obtain ⟨r,hr,rfl⟩:=List.mem_map.1 ha;simp at hb;rw [hb];exact hqr r hr⟩
 ·exact ((t.kb.call hS ((Below.refl _ _).alloc (Nat.le_refl _) o)).grown hS hgr hrow).set hh _ _
theorem JO {B N e z n:Nat} {W W':World} {v:Value} {xs:List Value} (h:W.ownsRow N e z v n xs) (hg:W.grownBy W' v.ownBlock):KeepsFrom B W W' :=
 ⟨hg.size,fun k o _ ho hc=>(hg.block k (Array.getElem?_eq_some_iff.1 ho).1 (fun e=>by
  rcases h.2 with ⟨rfl,_⟩|⟨g,cap,cur,rfl,_,hgb,_⟩
  ·simp [Value.ownBlock] at e
  ·obtain rfl:g=k:=by simpa [Value.ownBlock] using e.symm
   rw [hgb] at ho;cases ho;cases hc)).trans ho⟩
theorem Off.kb {G:List Nat} {lo hi N:Nat} {p:World→Prop} {S:Nat→Prop} {V W:World} (h:Off G lo hi N p V) (k:KB S V W) (hS:∀q,q<N→q<lo∨hi≤q→q∉G→S q):Off G lo hi N p W :=
 h.sim ⟨k.os,k.tape,k.output,k.size,fun q h1 h2 h3=>k.block q (hS q h1 h2 h3)⟩
theorem zP.kb {S:Nat→Prop} {V W:World} {g:Nat} {l:List (TypeId×Array Value)} (h:zP V g l) (k:KB S V W) (hS:∀q,g≤q→q<g+l.length→S q):zP W g l:=h.mono fun q _ _ h1 h2 a=>(k.block q (hS q h1 h2)).trans a
theorem zgY {G:List Nat} {lo hi:Nat} {D:Nat} {o:Obj} {W:World} (h:W.heap[D]?=some o) (hD:hi≤D) (hG:D∉G):∀X,Sim G lo hi W.heap.size W X→X.heap[D]?=some o:=fun X hX=>(hX.block D (Array.getElem?_eq_some_iff.1 h).1 (.inr hD) hG).trans h
end Go.Proofs.YtcoiklclbljjeaaGreatDoor.L
