/- Lemmas of the card's proof. -/
import Derived.Test.YtcoiklclbljjeaaGreatDoorM06
import Derived.Test.YtcoiklclbljjeaaGreatDoorM39
set_option linter.unusedVariables false
set_option linter.unusedSimpArgs false
set_option maxRecDepth 100000
set_option maxHeartbeats 16000000
namespace Go.Proofs.YtcoiklclbljjeaaGreatDoor.L
open Go.RowKit
theorem qB.keepC {w w':World} {B n:Nat} {x p y s:List Num} {a b c d:Num} {v:Value} (h:qB w B n x p y s a b c d v) (hk:∀(b i:Nat) v,w.cell? ⟨b,i,none⟩=some v→w'.cell? ⟨b,i,none⟩=some v):qB w' B n x p y s a b c d v:=by
 obtain ⟨A0,c0,A1,m1,c1,B0,d0,B1,k1,d1,e,n0,n1,n2,n3,f⟩:=h;exact ⟨A0,c0,A1,m1,c1,B0,d0,B1,k1,d1,e,n0.keep hk,n1.keep hk,n2.keep hk,n3.keep hk,f⟩
theorem JQ {W W':World} {row:Option Nat} (hg:W.grownBy W' row) (hr:∀r,row=some r→∃o:Obj,W.heap[r]?=some o∧o.isCells=false):∀(b i:Nat) v,W.cell? ⟨b,i,none⟩=some v→W'.cell? ⟨b,i,none⟩=some v:=fun b i v hv=>by
 have hbl:=World.block_lt_of_cell? _ ⟨b,i,none⟩ hv
 rw [World.cell?_of_block (a:=⟨b,i,none⟩) (hg.block b hbl (fun e=>by
  obtain ⟨o,h1,h2⟩:=hr b e.symm;have h3:=hv;unfold World.cell? at h3;rw [h1] at h3;cases o<;>simp_all [Obj.isCells]))]
 exact hv
theorem jY.keepC {E:Nat} {bd:Int} {x:ES} {W W':World} (h:jY E bd x W) (hk:∀(b i:Nat) v,W.cell? ⟨b,i,none⟩=some v→W'.cell? ⟨b,i,none⟩=some v) (hE:W'.heap[E]?=W.heap[E]?):jY E bd x W':=by
 obtain ⟨pc,h1,h2,h3,h4⟩:=h;exact ⟨pc,h1,hE.trans h2,fun ho=>⟨(h3 ho).1,(h3 ho).2.keepC hk⟩,h4⟩
theorem jY.row {E:Nat} {bd:Int} {x:ES} {W W':World} {row:Option Nat} (h:jY E bd x W) (hg:W.grownBy W' row) (hr:∀r,row=some r→∃o:Obj,W.heap[r]?=some o∧o.isCells=false):jY E bd x W':=by
 have hc:=h;obtain ⟨pc,_,h2,_⟩:=hc;exact h.keepC (JQ hg hr) ((qf h2 hg hr).trans (show W.heap[E]?=_ from h2).symm)
theorem StK.row {E:Nat} {bd:Int} {x0:ES} {b1 b2:Nat} {A:Option Addr} {n c:Nat} {xs:List Int} {s:List (List Int)} {W W':World} {row:Option Nat} (h:StK E bd x0 b1 b2 A n c xs s W) (hg:W.grownBy W' row) (hr:∀r,row=some r→∃o:Obj,W.heap[r]?=some o∧o.isCells=false):StK E bd x0 b1 b2 A n c xs s W' :=
 ⟨h.1.keep (JQ hg hr),qf h.2.1 hg hr,qf h.2.2.1 hg hr,h.2.2.2.1.keep (JQ hg hr),h.2.2.2.2.row hg hr⟩
theorem StK.below {E:Nat} {bd:Int} {x0:ES} {b1 b2:Nat} {A:Option Addr} {n c:Nat} {xs:List Int} {s:List (List Int)} {W W':World} (h:StK E bd x0 b1 b2 A n c xs s W) (hb:Below W.heap.size W W'):StK E bd x0 b1 b2 A n c xs s W':=h.row (zN hb) (fun r e=>by cases e)
theorem StK.next {E:Nat} {bd:Int} {x0:ES} {b1 b2:Nat} {A:Option Addr} {n c:Nat} {xs:List Int} {s s':List (List Int)} {W W':World} (h:StK E bd x0 b1 b2 A n c xs s W) (k:zD [E] W W') (h0:0<E) (h1:E≠b1) (h2:E≠b2) (h3:∀b o,A=some ⟨b,o,none⟩→b≠E) (he:jY E bd (yk x0 s') W'):StK E bd x0 b1 b2 A n c xs s' W' :=
 ⟨h.1.touch k (fun q hq=>by simp at hq;omega),(k.block _ h.2.1.lt (by simp;omega)).trans h.2.1,(k.block _ h.2.2.1.lt (by simp;omega)).trans h.2.2.1,
  ⟨h.2.2.2.1.1,h.2.2.2.1.2.1,fun hn=>by
   obtain ⟨b,o,e,hc⟩:=h.2.2.2.1.2.2 hn;refine ⟨b,o,e,fun j y hj=>?_⟩;have hv:=hc j y hj;rw [World.cell?_of_block (a:=⟨b,o+j,none⟩) (k.block b (World.block_lt_of_cell? _ ⟨b,o+j,none⟩ hv) (by have:=h3 b o e;simp;omega))];exact hv⟩,he⟩
def NoB (W:World) (g:Nat):Prop:=∀i v,W.cell? ⟨g,i,none⟩=some v→∀b:Bool,v≠.bool b
theorem NoB.int {W:World} {g:Nat} {t:TypeId} {x:Int} (h:At W g t #[x]):NoB W g:=fun i v hv b e=>by
 subst e;rw [h.cell] at hv
 match i,hv with
 | 0,hv=>simp at hv
 | i+1,hv=>simp at hv
theorem NoB.sl {W:World} {g:Nat} {t:TypeId} {A:Option Addr} {n c:Nat} (h:At W g t #[.slice A n c]):NoB W g:=fun i v hv b e=>by
 subst e;rw [h.cell] at hv
 match i,hv with
 | 0,hv=>simp at hv
 | i+1,hv=>simp at hv
theorem zk.nob {W W':World} {A:Option Addr} {n c g:Nat} {xs:List Num} (h:zk W A n c xs) (hc:NoB W g) (ho:z7 g W W'):zk W' A n c xs :=
 ho.nums h fun b o e hn=>by
  rintro rfl;obtain ⟨b', o', x,e', _,_,_,_,h4⟩:=h.at_ (k:=0) hn;rw [e] at e';cases e';exact hc _ _ h4 x.bad rfl
theorem qB.nob {W W':World} {B g n:Nat} {x p y s:List Num} {a b c d:Num} {v:Value} (h:qB W B n x p y s a b c d v) (hc:NoB W g) (ho:z7 g W W'):qB W' B n x p y s a b c d v:=by
 obtain ⟨A0,c0,A1,m1,c1,B0,d0,B1,k1,d1,e,n0,n1,n2,n3,f⟩:=h;exact ⟨A0,c0,A1,m1,c1,B0,d0,B1,k1,d1,e,n0.nob hc ho,n1.nob hc ho,n2.nob hc ho,n3.nob hc ho,f⟩
theorem jY.nob {E g:Nat} {bd:Int} {x:ES} {W W':World} (h:jY E bd x W) (hc:NoB W g) (hE:E≠g) (ho:z7 g W W'):jY E bd x W':=by
 obtain ⟨pc,h1,h2,h3,h4⟩:=h;exact ⟨pc,h1,ho.at_ h2 hE,fun on=>⟨(h3 on).1,(h3 on).2.nob hc ho⟩,h4⟩
theorem z7.bytes {W W':World} {A:Option Addr} {n c g:Nat} {xs:List Int} (ho:z7 g W W') (h:qt W A n c xs) (hA:∀b o,A=some ⟨b,o,none⟩→0<n→b≠g):qt W' A n c xs :=
 ⟨h.1,h.2.1,fun hn=>by
  obtain ⟨b,o,e,hc⟩:=h.2.2 hn;exact ⟨b,o,e,fun i x hx=>by rw [jb (ho.block b (hA b o e hn))];exact hc i x hx⟩⟩
theorem z7.tab {W W':World} {g:Nat} (ho:z7 g W W') (h:Tab W) (hg:0<g):Tab W':=fun i hi=>by
 rw [←h i hi];exact jb (ho.block 0 (by omega))
theorem StK.nob {E g:Nat} {bd:Int} {x0:ES} {b1 b2:Nat} {A:Option Addr} {n c:Nat} {xs:List Int} {s:List (List Int)} {W W':World} (h:StK E bd x0 b1 b2 A n c xs s W) (hc:NoB W g) (ho:z7 g W W') (h0:0<g) (hE:E≠g) (h1:b1≠g) (h2:b2≠g) (h3:∀b o,A=some ⟨b,o,none⟩→0<n→b≠g):StK E bd x0 b1 b2 A n c xs s W' :=
 ⟨ho.tab h.1 h0,ho.at_ h.2.1 h1,ho.at_ h.2.2.1 h2,ho.bytes h.2.2.2.1 h3,h.2.2.2.2.nob hc hE ho⟩
theorem qG.of_Q {w:World} {B:Nat} {r:PR} {v:Value} (h:Qr w B r v) (hk:r.ok):qG w B r v:=⟨hk,h⟩
theorem zaE.q {on:Bool} {w:World} {B:Nat} {r:PR} {v:Value} (h:zaE on w B r v) (ho:on=true):Qr w B r v:=(h ho).2
theorem OkE.pr {x:ES} (h:OkE x) (ho:x.on=true):x.r.ok:=by
 obtain ⟨_,h1,h4,hb,_⟩:=h.run ho;exact zbU hb h1 h4
section
structure RV where
 r:zeA
 a:Option Addr
 n:Nat
 c:Nat
 b:Option Addr
 m:Nat
 d:Nat
def RV.cs (x:RV):List Value:=[x.r.h,x.r.q,.slice x.a x.n x.c,.slice x.b x.m x.d]
structure RV.ok (W:World) (N:Nat) (x:RV):Prop where
 X:zU W x.a x.n x.c x.r.X
 D:zU W x.b x.m x.d x.r.D
 fa:∀q o,x.a=some ⟨q,o,none⟩→N≤q
 fb:∀q o,x.b=some ⟨q,o,none⟩→N≤q
 lX:x.r.X.length≤9223372036854775807
 lD:x.r.D.length≤9223372036854775807
structure vo (W:World) (B N:Nat) (v:Value) (R:List RV):Prop where
 row:W.ownsRow B 49 4 v R.length (R.flatMap RV.cs)
 ok:∀x∈R,x.ok W N
 apart:∀x∈R,∀q o,(x.a=some ⟨q,o,none⟩→0<x.n→v.ownBlock≠some q)∧(x.b=some ⟨q,o,none⟩→0<x.m→v.ownBlock≠some q)
theorem zU.lowC {W:World} {A:Option Addr} {n c:Nat} {xs:List Int} (h:zU W A n c xs) {q o:Nat} (e:A=some ⟨q,o,none⟩) (hn:0<n):∃cs t f,W.heap[q]?=some (.cells cs t f):=by
 obtain ⟨b,o', x,e', _,h4⟩:=h.at_ (k:=0) hn;rw [e] at e';cases e';unfold World.cell? at h4
 split at h4
 ·rename_i hc;exact ⟨_,_,_,hc⟩
 ·cases h4
theorem zU.same {W W':World} {A:Option Addr} {n c:Nat} {xs:List Int} (h:zU W A n c xs) (hk:∀q o,A=some ⟨q,o,none⟩→0<n→W'.heap[q]?=W.heap[q]?):zU W' A n c xs :=
 ⟨h.1,h.2.1,fun hn=>by
  obtain ⟨b,o,e,hc⟩:=h.2.2 hn;exact ⟨b,o,e,fun i x hx=>by rw [jb (hk b o e hn)];exact hc i x hx⟩⟩
theorem vo.same {W W':World} {B N:Nat} {v:Value} {R:List RV} (h:vo W B N v R) (hN:N≤B) (hk:∀q,N≤q→q<W.heap.size→(∃cs t f,W.heap[q]?=some (.cells cs t f))→W'.heap[q]?=W.heap[q]?):vo W' B N v R:=by
 refine ⟨⟨h.row.1,?_⟩,fun x hx=>?_,h.apart⟩
 ·rcases h.row.2 with h0|⟨g,cap,cur,e,hg,hb,r⟩
  ·exact .inl h0
  ·exact .inr ⟨g,cap,cur,e,hg,(hk g (Nat.le_trans hN hg) (Array.getElem?_eq_some_iff.1 hb).1 ⟨_,_,_,hb⟩).trans hb,r⟩
 ·have k:=h.ok x hx
  refine ⟨k.X.same fun q o e hn=>?_,k.D.same fun q o e hn=>?_,k.fa,k.fb,k.lX,k.lD⟩
  ·obtain ⟨cs,t,f,hc⟩:=k.X.lowC e hn
   exact hk q (k.fa q o e) (Array.getElem?_eq_some_iff.1 hc).1 ⟨_,_,_,hc⟩
  ·obtain ⟨cs,t,f,hc⟩:=k.D.lowC e hn
   exact hk q (k.fb q o e) (Array.getElem?_eq_some_iff.1 hc).1 ⟨_,_,_,hc⟩
section
variable {W W':World} {B N:Nat} {v:Value} {R:List RV}
theorem vo.nil_ (W:World) (B N:Nat):vo W B N (.slice none 0 0) []:=⟨World.ownsRow_nil _ _ _ _,(fun x hx=>by cases hx),fun x hx=>by cases hx⟩
theorem vo.row' {row:Option Nat} (h:vo W B N v R) (hN:N≤B) (hg:W.grownBy W' row) (hr:∀r,row=some r→∃o:Obj,W.heap[r]?=some o∧o.isCells=false):vo W' B N v R :=
 h.same hN fun q hq hl ⟨cs,t,f,hc⟩=>hg.block q hl fun e=>by
  obtain ⟨o,h1,h2⟩:=hr q e.symm;rw [hc] at h1;cases h1;cases h2
theorem vo.below (h:vo W B N v R) (hN:N≤B) (hb:Below W.heap.size W W'):vo W' B N v R:=h.same hN fun q _ hl _=>hb.block q hl
theorem vo.touch {G:List Nat} (h:vo W B N v R) (hN:N≤B) (k:zD G W W') (hG:∀q,q∈G→q<N):vo W' B N v R:=h.same hN fun q hq hl _=>k.block q hl fun hm=>by have:=hG q hm;omega
theorem vo.only {g:Nat} (h:vo W B N v R) (hN:N≤B) (k:z7 g W W') (hg:g<N):vo W' B N v R:=h.same hN fun q hq hl _=>k.block q (by omega)
theorem vo.len {A:Option Addr} {n c:Nat} (h:vo W B N (.slice A n c) R):n=R.length:=by
 rcases h.row.2 with ⟨e,e2⟩|⟨g,cap,cur,e,_⟩
 ·have e1:n=0:=by simpa using (Value.slice.inj e).2.1
  omega
 ·exact (Value.slice.inj e).2.1
theorem vo.form (h:vo W B N v R):∃A c,v=.slice A R.length c:=by
 rcases h.row.2 with ⟨rfl,h0⟩|⟨g,cap,cur,rfl,_⟩
 ·exact ⟨_,_,by rw [h0]⟩
 ·exact ⟨_,_,rfl⟩
theorem vo.app {v':Value} {x:RV} {o:Obj} (h:vo W B N v R) (hN:N≤B) (hx:x.ok W N) (ha:∀q p,(x.a=some ⟨q,p,none⟩→0<x.n→v.ownBlock≠some q)∧(x.b=some ⟨q,p,none⟩→0<x.m→v.ownBlock≠some q))
  (hown:W'.ownsRow B 49 4 v' (R.length+1) (R.flatMap RV.cs++x.cs)) (hgr:(W.alloc o).grownBy W' v.ownBlock) (hat:v'.ownBlock=v.ownBlock∨v'.ownBlock=some (W.alloc o).heap.size):vo W' B N v' (R++[x]):=by
 have keep:∀q,q<W.heap.size→v.ownBlock≠some q→W'.heap[q]?=W.heap[q]?:=fun q hq hne=>(hgr.block q (by simp;omega) (fun e=>hne e.symm)).trans (Below.heap_alloc W o q hq)
 have apv:∀q,q<W.heap.size→v.ownBlock≠some q→v'.ownBlock≠some q:=fun q hq hne e=>by
  rcases hat with e'|e'
  ·exact hne (e'▸e)
  ·rw [e'] at e
   simp at e;omega
 have one:∀y:RV,y.ok W N→(∀q p,(y.a=some ⟨q,p,none⟩→0<y.n→v.ownBlock≠some q)∧(y.b=some ⟨q,p,none⟩→0<y.m→v.ownBlock≠some q))→y.ok W' N∧∀q p,(y.a=some ⟨q,p,none⟩→0<y.n→v'.ownBlock≠some q)∧(y.b=some ⟨q,p,none⟩→0<y.m→v'.ownBlock≠some q):=fun y k ap=>by
  refine ⟨⟨k.X.same fun q p e hn=>?_,k.D.same fun q p e hn=>?_,k.fa,k.fb,k.lX,k.lD⟩,fun q p=>⟨fun e hn=>?_,fun e hn=>?_⟩⟩
  ·obtain ⟨_,_,_,hc⟩:=k.X.lowC e hn
   exact keep q (Array.getElem?_eq_some_iff.1 hc).1 ((ap q p).1 e hn)
  ·obtain ⟨_,_,_,hc⟩:=k.D.lowC e hn
   exact keep q (Array.getElem?_eq_some_iff.1 hc).1 ((ap q p).2 e hn)
  ·obtain ⟨_,_,_,hc⟩:=k.X.lowC e hn
   exact apv q (Array.getElem?_eq_some_iff.1 hc).1 ((ap q p).1 e hn)
  ·obtain ⟨_,_,_,hc⟩:=k.D.lowC e hn
   exact apv q (Array.getElem?_eq_some_iff.1 hc).1 ((ap q p).2 e hn)
 refine ⟨?_,fun y hy=>?_,fun y hy=>?_⟩
 ·rw [List.length_append,List.flatMap_append]
  simpa using hown
 ·rcases List.mem_append.1 hy with hy|hy
  ·exact (one y (h.ok y hy) (h.apart y hy)).1
  ·obtain rfl:=List.mem_singleton.1 hy
   exact (one y hx ha).1
 ·rcases List.mem_append.1 hy with hy|hy
  ·exact (one y (h.ok y hy) (h.apart y hy)).2
  ·obtain rfl:=List.mem_singleton.1 hy
   exact (one y hx ha).2
end
theorem qH.maxlen {W:World} {B:Nat} {v:Value} {xs:List Int} (h:qH W B v xs):xs.length≤9223372036854775807:=by
 rcases h.2 with ⟨_,h0⟩|⟨g,cap,cur,_,_,_,hn,hm,_⟩
 ·omega
 ·unfold maxLen at hm;omega
theorem zkH:∀(R:List RV) (j:Nat) (x:RV) (i:Nat),R[j]?=some x→i<4→(R.flatMap RV.cs)[j*4+i]?=x.cs[i]?
 | [],j,x,i,h,_=>by simp at h
 | y::R,0,x,i,h,hi=>by
  simp at h;subst h;rw [List.flatMap_cons,List.getElem?_append_left (by show _<4;omega)]
  congr 1
  omega
 | y::R,j+1,x,i,h,hi=>by
  rw [List.flatMap_cons,List.getElem?_append_right (by show 4≤_;omega)];have:=zkH R j x i (by simpa using h) hi;rw [←this]
  congr 1
  show (j+1)*4+i-4=_;omega
theorem vo.at_ {W:World} {B N:Nat} {A:Option Addr} {n c:Nat} {R:List RV} (h:vo W B N (.slice A n c) R) {j:Nat} {x:RV} (hx:R[j]?=some x):∃g,A=some ⟨g,0,none⟩∧n≤c∧W.cell? ⟨g,j*4,none⟩=some (.int .i64 x.r.h)∧W.cell? ⟨g,j*4+1,none⟩=some (.int .i64 x.r.q)∧W.cell? ⟨g,j*4+2,none⟩=some (.slice x.a x.n x.c)∧W.cell? ⟨g,j*4+3,none⟩=some (.slice x.b x.m x.d):=by
 have hn:=h.len;have hj:j<R.length:=(List.getElem?_eq_some_iff.1 hx).1;have hrow:=h.row;obtain ⟨g,cap,e,_,_,hc⟩:=qk h.row (by omega);injection e with e1 e2 e3;subst e1 e3;subst hn;have key:∀i,i<4→W.cell? ⟨g,j*4+i,none⟩=x.cs[i]?:=fun i hi=>by rw [World.ownsRow.cellAt hrow (j*4+i) (by omega),zkH R j x i hx hi]
 exact ⟨g,rfl,hc,key 0 (by decide),key 1 (by decide),key 2 (by decide),key 3 (by decide)⟩
theorem zk6:(Tryz.prog.info? 49).map (fun i=>(i.zero,i.size,i.bytes))=some (some (.agg #[.int .i64 0,.int .i64 0,.slice none 0 0,.slice none 0 0]),4,64):=by kernel_rfl
theorem zbB {o:Oper} {a:Act} {K:Act→World→Prop} {Q:Exit→Act→World→Prop} {w:World} (s x:Operand)
  (ho:o.op=.call { callee:=.builtin .append,args:=#[s,x],argTypes:=#[85,85] }) (B:Nat) (v:Value) (R:List RV) (y:RV) (g:Nat) (hs:a.eval s=v) (hown:w.ownsRow B 49 4 v R.length (R.flatMap RV.cs))
  (hx:a.eval x=.slice (some ⟨g,0,none⟩) 1 1) (hy:At w g 49 y.cs.toArray) (hl:R.length≤1000) (hB:B≤w.heap.size)
  (h:∀v' w', w'.ownsRow B 49 4 v' (R.length+1) (R.flatMap RV.cs++y.cs)→w.grownBy w' v.ownBlock→(v'.ownBlock=v.ownBlock∨v'.ownBlock=some w.heap.size)→K (a.put o.dst v') w'):o.wp Tryz.prog a w K Q:=by
 obtain ⟨i0,hi,hz0,hz1,hz2⟩:=info_parts zk6
 obtain ⟨v', w', hr,h2,h3,_,hat⟩:=run_append_own_at (P:=Tryz.prog) w B 85 o.type 49 i0 _ 4 64 Tryz.underlying85 hi hz0 hz1 hz2 rfl (by decide) v R.length (R.flatMap RV.cs) hown ⟨g,0,none⟩ 1 1 y.cs rfl
  (fun j u hj=>by
   rw [zkB,hy.cell]
   simpa using hj) (fun u hu=>by
   simp only [RV.cs,List.mem_cons,List.not_mem_nil,or_false] at hu;rcases hu with rfl|rfl|rfl|rfl<;>rfl) (by unfold maxLen;omega) (by omega) hB
 exact Xa6
end
section
section
variable {P:Program} {d:Nat} {xs ys:Array Value} {f:Field} {fs:List Field} {a b:Value} {w:World}
theorem YH (hn : (f.name == "_") = false) (ha : (part f.type xs f.offset).run P w = .ok a w) (hb : (part f.type ys f.offset).run P w = .ok b w) (he : (Op.equalIn d f.type a b).run P w = .ok true w) (hr : (Op.eqFields d xs ys fs).run P w = .ok true w) : (Op.eqFields d xs ys (f :: fs)).run P w = .ok true w := by
 have hn' : f.name ≠ "_" := by simpa using hn
 rw [Op.eqFields];simp only [if_pos hn', Sem.run_bind,ha,hb,he,Result.andThen_ok]
 simpa using hr
theorem zjv:(Op.eqFields d xs ys []).run P w=.ok true w:=by simp [Op.eqFields]
theorem zju {t:TypeId} {gs:Array Field} (hu:P.underlying t=some (.struct gs)) (hp:P.stoodInHeld t=false) (h:(Op.eqFields d xs ys gs.toList).run P w=.ok true w):(Op.equalIn (d+1) t (.agg xs) (.agg ys)).run P w=.ok true w:=by
 have hf:P.fieldsOf t=gs:=by simp [Program.fieldsOf,hu]
 rw [run_equalIn_struct (P:=P) w d t xs ys (by rw [hf];exact hu) hp,hf];exact h
end
theorem zgx (d:Nat) (x:Int) (w:World):(Op.equalIn (d+1) 3 x x).run Tryz.prog w=.ok true w:=by simp [Op.equalIn,go_sem,run_underlying Tryz.underlying3]
theorem zlL (d:Nat) (x:Bool) (w:World):(Op.equalIn (d+1) 4 x x).run Tryz.prog w=.ok true w:=by simp [Op.equalIn,go_sem,run_underlying Tryz.underlying4]
theorem zjx (d:Nat) (v l h:Int) (b:Bool) (w:World):(Op.equalIn (d+2) 71 (.agg #[v,l,h,b]) (.agg #[v,l,h,b])).run Tryz.prog w=.ok true w :=
 zju Tryz.underlying71 (by kernel_rfl) (YH (by rfl) (by kernel_rfl) (by kernel_rfl) (zgx d v w) (YH (by rfl) (by kernel_rfl) (by kernel_rfl) (zgx d l w) (YH (by rfl) (by kernel_rfl) (by kernel_rfl) (zgx d h w) (YH (by rfl) (by kernel_rfl) (by kernel_rfl) (zlL d b w) zjv))))
theorem zkN (d:Nat) (v l h v' l' h':Int) (b b':Bool) (w:World):(Op.equalIn (d+3) 73 (.agg #[v,l,h,b,v', l', h', b']) (.agg #[v,l,h,b,v', l', h', b'])).run Tryz.prog w=.ok true w :=
 zju Tryz.underlying73 (by kernel_rfl) (YH (by rfl) (by kernel_rfl) (by kernel_rfl) (zjx d v l h b w) (YH (by rfl) (by kernel_rfl) (by kernel_rfl) (zjx d v' l' h' b' w) zjv))
theorem zlw (d:Nat) (a b c e:Num) (w:World):(Op.equalIn (d+4) 74 (.agg (a.cs++b.cs++c.cs++e.cs).toArray) (.agg (a.cs++b.cs++c.cs++e.cs).toArray)).run Tryz.prog w=.ok true w:=by
 obtain ⟨av,al,ah,ab⟩:=a;obtain ⟨bv,bl,bh,bb⟩:=b;obtain ⟨cv,cl,ch,cb⟩:=c;obtain ⟨dv,dl,dh,db⟩:=e;have h1:=zkN d av al ah bv bl bh ab bb w;have h2:=zkN d cv cl ch dv dl dh cb db w;have hu:=Tryz.underlying74;rw [Op.equalIn];have hs:(Go.sizeOf 73).run Tryz.prog w=.ok 8 w:=by kernel_rfl
 simp only [Sem.run_bind,run_underlying hu,Result.andThen_ok,hs];obtain ⟨L,hL⟩:=zc (((⟨av,al,ah,ab⟩:Num).cs++(⟨bv,bl,bh,bb⟩:Num).cs++(⟨cv,cl,ch,cb⟩:Num).cs++(⟨dv,dl,dh,db⟩:Num).cs).toArray);have p0:(part 73 L 0).run Tryz.prog w=.ok (.agg #[av,al,ah,ab,bv,bl,bh,bb]) w:=by rw [←hL];kernel_rfl
 have p1:(part 73 L 8).run Tryz.prog w=.ok (.agg #[cv,cl,ch,cb,dv,dl,dh,db]) w:=by rw [←hL];kernel_rfl
 rw [hL];clear hL;simp [Std.Legacy.Range.forIn_eq_forIn_range', Std.Legacy.Range.size,List.range', Sem.run_bind,p0,p1,h1,h2]
end
section
attribute [local go_sem] Oper.semAt_some
attribute [local go_sem] ZD
theorem zad (f:Fn) (x y:Array Value) (W:World):(binOp .eql 86 (.func f x y) .nilFunc).run Tryz.prog W=.ok (.bool false) W:=by kernel_rfl
attribute [local go_sem] zad
theorem zec {W:World} {g:Nat} {t:TypeId} (xs:List Int) (h:At W g t (xs.map (Value.int .i64)).toArray):zU W (some ⟨g,0,none⟩) xs.length xs.length xs:=⟨rfl,Nat.le_refl _,fun _=>⟨g,0,rfl,fun k x hk=>by rw [Nat.zero_add,h.cell k];simp [hk]⟩⟩
def hL (g:Nat):List FrR:=[⟨1,1,1,some ⟨g+1+1,0,none⟩,2,2,[0,hU]⟩,⟨2,2,1,some ⟨g+1+1+1,0,none⟩,2,2,[hU,hU]⟩,⟨3,3,1,some ⟨g+1+1+1+1,0,none⟩,3,3,[hU,hU,3*hU]⟩]
theorem zkm {W:World} {g q:Nat} (h1:At W (g+1+1) 3 #[.int .i64 0,.int .i64 16777216]) (h2:At W (g+1+1+1) 3 #[.int .i64 16777216,.int .i64 16777216]) (h3:At W (g+1+1+1+1) 3 #[.int .i64 16777216,.int .i64 16777216,.int .i64 50331648])
  (h:At W q 47 #[.int .i64 1,.int .i64 1,.int .i64 1,.slice (some ⟨g+1+1,0,none⟩) 2 2,.int .i64 2,.int .i64 2,.int .i64 1,.slice (some ⟨g+1+1+1,0,none⟩) 2 2,.int .i64 3,.int .i64 3,.int .i64 1,.slice (some ⟨g+1+1+1+1,0,none⟩) 3 3]):ziE W (some ⟨q,0,none⟩) 3 3 (hL g) :=
 ⟨rfl,Nat.le_refl _,fun _=>⟨q,0,rfl,fun i f hf=>by
  match i,hf with
  | 0,hf=>cases hf;exact ⟨h.cell 0,h.cell 1,h.cell 2,h.cell 3,zec [0,hU] h1,show 2≤1000 by omega⟩
  | 1,hf=>cases hf;exact ⟨h.cell 4,h.cell 5,h.cell 6,h.cell 7,zec [hU,hU] h2,show 2≤1000 by omega⟩
  | 2,hf=>cases hf;exact ⟨h.cell 8,h.cell 9,h.cell 10,h.cell 11,zec [hU,hU,3*hU] h3,show 3≤1000 by omega⟩
  | i+3,hf=>simp [hL] at hf⟩⟩
theorem zlu (g:Nat):(hL g).all FrR.ok=true:=by
 have h:=zkl;simp only [hL,List.all_cons,List.all_nil,FrR.ok,h.1,h.2.1,h.2.2,Bool.and_self]
theorem zkn (g:Nat):yB (hL g)=hB:=rfl
theorem zeX {l:List Num} {a b c:Int} {d:Bool} (h:l.map (fun x=>(x.v,x.l,x.h,x.bad))=[(a,b,c,d)]):l=[⟨a,b,c,d⟩]:=by
 cases l with
 | nil=>cases h
 | cons x t =>
  cases t with
  | cons y t=>simp at h
  | nil =>
   obtain ⟨v,l,h', e⟩:=x;simp at h;obtain ⟨rfl,rfl,rfl,rfl⟩:=h;rfl
theorem zj9 {α:Type} (p1 p2 p3:α) (Q:List α→α→Prop) (q1:Q [] p1) (q2:Q [p1] p2) (q3:Q [p1,p2] p3):∀s ys,s++[ys] <+: [p1,p2,p3]→Q s ys:=by
 rintro s ys ⟨rest,hrest⟩
 match s,hrest with
 | [],h=>obtain ⟨rfl,_⟩:=List.cons.inj h;exact q1
 | [a],h=>obtain ⟨rfl,h2⟩:=List.cons.inj h;obtain ⟨rfl,_⟩:=List.cons.inj h2;exact q2
 | [a,b],h=>obtain ⟨rfl,h2⟩:=List.cons.inj h;obtain ⟨rfl,h3⟩:=List.cons.inj h2;obtain ⟨rfl,_⟩:=List.cons.inj h3;exact q3
 | a::b::c::r,h=>have:=congrArg List.length h;simp at this
theorem zgr (s:List (List Int)) (ys:List Int) (h:s++[ys] <+: [h1B,h2B,h3B]):zdv (yk hE0 s) ys=0∧(zaO (yk hE0 s) ys).h=33 :=
 zj9 h1B h2B h3B (fun s ys=>zdv (yk hE0 s) ys=0∧(zaO (yk hE0 s) ys).h=33) ⟨zcc.1,zcb.1⟩ ⟨zcc.2.1,zcb.2.1⟩ ⟨zcc.2.2,zcb.2.2⟩ s ys h
theorem ziM (w:World) (hT:Tab w):Calls Tryz.prog 7 #[] w fun e w'=>e=.returned (.bool true)∧Below w.heap.size w w':=by
 have hu:=Tryz.underlying47;have hu1:=Tryz.underlying49;have hu2:=Tryz.underlying71;have hu3:=Tryz.underlying82;have hu4:=Tryz.underlying22;have HT:=za hT;clear hT;refine (callsIn_wide (n:=30)).1 ?_;refine callsIn_of_wp_marks Tryz.func7 rfl trivial ?_ rfl;simp only [Tryz.ntmps7,List.size_toArray,List.length_cons,List.length_nil,Nat.reduceAdd,Nat.reduceSub,Array.replicate_succ,Array.replicate_zero,List.push_toArray,List.append_toArray,List.nil_append,List.cons_append]
 gi_wp2_with fail;refine ⟨trivial,(zw 29 (zco 3 (by decide) (by decide) _)).mono ?_⟩;rintro e w1 ⟨rfl,rfl⟩;gi_wp2_with fail;have A0:=za ((((((At.new w 4 #[.bool false]).alloc (.cells (qU false 0 0 ZPC 0 0 3) 98)).alloc (.cells #[.int .i64 0,.int .i64 16777216] 3)).alloc (.cells #[.int .i64 16777216,.int .i64 16777216] 3)).alloc (.cells #[.int .i64 16777216,.int .i64 16777216,.int .i64 50331648] 3)).alloc (.cells #[.int .i64 1,.int .i64 1,.int .i64 1,.slice (some ⟨w.heap.size+1+1,0,none⟩) 2 2,.int .i64 2,.int .i64 2,.int .i64 1,.slice (some ⟨w.heap.size+1+1+1,0,none⟩) 2 2,.int .i64 3,.int .i64 3,.int .i64 1,.slice (some ⟨w.heap.size+1+1+1+1,0,none⟩) 3 3] 47))
 have A1:=za (((((At.new (w.alloc (.cells #[.bool false] 4)) 98 (qU false 0 0 ZPC 0 0 3)).alloc (.cells #[.int .i64 0,.int .i64 16777216] 3)).alloc (.cells #[.int .i64 16777216,.int .i64 16777216] 3)).alloc (.cells #[.int .i64 16777216,.int .i64 16777216,.int .i64 50331648] 3)).alloc (.cells #[.int .i64 1,.int .i64 1,.int .i64 1,.slice (some ⟨w.heap.size+1+1,0,none⟩) 2 2,.int .i64 2,.int .i64 2,.int .i64 1,.slice (some ⟨w.heap.size+1+1+1,0,none⟩) 2 2,.int .i64 3,.int .i64 3,.int .i64 1,.slice (some ⟨w.heap.size+1+1+1+1,0,none⟩) 3 3] 47))
 have A2:=za ((((At.new ((w.alloc (.cells #[.bool false] 4)).alloc (.cells (qU false 0 0 ZPC 0 0 3) 98)) 3 #[.int .i64 0,.int .i64 16777216]).alloc (.cells #[.int .i64 16777216,.int .i64 16777216] 3)).alloc (.cells #[.int .i64 16777216,.int .i64 16777216,.int .i64 50331648] 3)).alloc (.cells #[.int .i64 1,.int .i64 1,.int .i64 1,.slice (some ⟨w.heap.size+1+1,0,none⟩) 2 2,.int .i64 2,.int .i64 2,.int .i64 1,.slice (some ⟨w.heap.size+1+1+1,0,none⟩) 2 2,.int .i64 3,.int .i64 3,.int .i64 1,.slice (some ⟨w.heap.size+1+1+1+1,0,none⟩) 3 3] 47))
 have A3:=za (((At.new (((w.alloc (.cells #[.bool false] 4)).alloc (.cells (qU false 0 0 ZPC 0 0 3) 98)).alloc (.cells #[.int .i64 0,.int .i64 16777216] 3)) 3 #[.int .i64 16777216,.int .i64 16777216]).alloc (.cells #[.int .i64 16777216,.int .i64 16777216,.int .i64 50331648] 3)).alloc (.cells #[.int .i64 1,.int .i64 1,.int .i64 1,.slice (some ⟨w.heap.size+1+1,0,none⟩) 2 2,.int .i64 2,.int .i64 2,.int .i64 1,.slice (some ⟨w.heap.size+1+1+1,0,none⟩) 2 2,.int .i64 3,.int .i64 3,.int .i64 1,.slice (some ⟨w.heap.size+1+1+1+1,0,none⟩) 3 3] 47))
 have A4:=za ((At.new ((((w.alloc (.cells #[.bool false] 4)).alloc (.cells (qU false 0 0 ZPC 0 0 3) 98)).alloc (.cells #[.int .i64 0,.int .i64 16777216] 3)).alloc (.cells #[.int .i64 16777216,.int .i64 16777216] 3)) 3 #[.int .i64 16777216,.int .i64 16777216,.int .i64 50331648]).alloc (.cells #[.int .i64 1,.int .i64 1,.int .i64 1,.slice (some ⟨w.heap.size+1+1,0,none⟩) 2 2,.int .i64 2,.int .i64 2,.int .i64 1,.slice (some ⟨w.heap.size+1+1+1,0,none⟩) 2 2,.int .i64 3,.int .i64 3,.int .i64 1,.slice (some ⟨w.heap.size+1+1+1+1,0,none⟩) 3 3] 47))
 have A5:=za (At.new (((((w.alloc (.cells #[.bool false] 4)).alloc (.cells (qU false 0 0 ZPC 0 0 3) 98)).alloc (.cells #[.int .i64 0,.int .i64 16777216] 3)).alloc (.cells #[.int .i64 16777216,.int .i64 16777216] 3)).alloc (.cells #[.int .i64 16777216,.int .i64 16777216,.int .i64 50331648] 3)) 47 #[.int .i64 1,.int .i64 1,.int .i64 1,.slice (some ⟨w.heap.size+1+1,0,none⟩) 2 2,.int .i64 2,.int .i64 2,.int .i64 1,.slice (some ⟨w.heap.size+1+1+1,0,none⟩) 2 2,.int .i64 3,.int .i64 3,.int .i64 1,.slice (some ⟨w.heap.size+1+1+1+1,0,none⟩) 3 3])
 have B0:=za (zg (zg (zg (zg (zg (zg (Below.refl w.heap.size w) (.cells #[.bool false] 4)) (.cells (qU false 0 0 ZPC 0 0 3) 98)) (.cells #[.int .i64 0,.int .i64 16777216] 3)) (.cells #[.int .i64 16777216,.int .i64 16777216] 3)) (.cells #[.int .i64 16777216,.int .i64 16777216,.int .i64 50331648] 3)) (.cells #[.int .i64 1,.int .i64 1,.int .i64 1,.slice (some ⟨w.heap.size+1+1,0,none⟩) 2 2,.int .i64 2,.int .i64 2,.int .i64 1,.slice (some ⟨w.heap.size+1+1+1,0,none⟩) 2 2,.int .i64 3,.int .i64 3,.int .i64 1,.slice (some ⟨w.heap.size+1+1+1+1,0,none⟩) 3 3] 47))
 obtain ⟨W0,hW0⟩:=zc (((((((w.alloc (.cells #[.bool false] 4)).alloc (.cells (qU false 0 0 ZPC 0 0 3) 98)).alloc (.cells #[.int .i64 0,.int .i64 16777216] 3)).alloc (.cells #[.int .i64 16777216,.int .i64 16777216] 3)).alloc (.cells #[.int .i64 16777216,.int .i64 16777216,.int .i64 50331648] 3)).alloc (.cells #[.int .i64 1,.int .i64 1,.int .i64 1,.slice (some ⟨w.heap.size+1+1,0,none⟩) 2 2,.int .i64 2,.int .i64 2,.int .i64 1,.slice (some ⟨w.heap.size+1+1+1,0,none⟩) 2 2,.int .i64 3,.int .i64 3,.int .i64 1,.slice (some ⟨w.heap.size+1+1+1+1,0,none⟩) 3 3] 47)))
 simp only [World.size_alloc] at A1 A2 A3 A4 A5;have hWg:=za (show W0.heap.size=w.heap.size+6 by rw [←hW0];simp);rw [hW0] at A0 A1 A2 A3 A4 A5 B0 ⊢;clear hW0;obtain ⟨g,hg⟩:=zc (w.heap.size);rw [hg] at A0 A1 A2 A3 A4 A5 B0 hWg
 try simp only [hg]
 have HFR:=za (zkm A2.out A3.out A4.out A5.out);have HT0:=za (HT.out.below (by rw [hg];exact B0.out));refine ⟨trivial,(zw 29 (zdb _ 3 3 (hL g) (by decide) W0 HT0.out HFR.out)).mono ?_⟩;rintro e w2 ⟨(⟨_,v,rfl,ho⟩|⟨hno,_⟩),hb⟩
 case inr=>exact absurd (zlu g) (by rw [hno];decide)
 rw [zkn] at ho;have HF:=za (fun q (e:v.ownBlock=some q)=>(World.ownsRow.lt ho q e).1);obtain ⟨A9,c9,hv,hby⟩:=Zu ho;obtain ⟨n9,hn9⟩:∃x,hB.length=x:=⟨_,rfl⟩
 rw [hn9] at hv hby;have HBY:=za hby;have R0:=za (A0.out.below hb);have R1:=za (A1.out.below hb);have HT2:=za (HT0.out.below hb);have B2:=za ((show Below w.heap.size w W0 by rw [hg];exact B0.out).trans (hb.mono (by have:=hWg.out;omega)));have hsz2:=hb.size;subst hv;clear hby ho hb;gi_wp2_with fail;refine ⟨trivial,(zw 29 (Qo (g+1) A9 n9 c9 _)).mono ?_⟩;rintro e w3 ⟨rfl,rfl⟩;unfold Vh
 gi_wp2_with fail;obtain ⟨W4,hW4⟩:=zc ((((w2.alloc (.cells #[.int .i64 0] 3)).alloc (.cells #[.pointer (some ⟨g+1,0,none⟩)] 26)).alloc (.cells #[.slice A9 n9 c9] 41)));have hb4:Below w2.heap.size w2 W4:=by rw [←hW4];exact zg (zg (zg (Below.refl _ w2) _) _) _
 have q0:At W4 w2.heap.size 3 #[.int .i64 0]:=by rw [←hW4];exact ((At.new w2 3 #[.int .i64 0]).alloc _).alloc _
 have q1:At W4 (w2.heap.size+1) 26 #[.pointer (some ⟨g+1,0,none⟩)]:=by rw [←hW4];exact (show At ((w2.alloc (.cells #[.int .i64 0] 3)).alloc (.cells #[.pointer (some ⟨g+1,0,none⟩)] 26)) (w2.heap.size+1) 26 #[.pointer (some ⟨g+1,0,none⟩)] from At.new' (by simp)).alloc _
 have q2:At W4 (w2.heap.size+1+1) 41 #[.slice A9 n9 c9]:=by rw [←hW4];exact At.new' (by simp)
 have hs4:W4.heap.size=w2.heap.size+3:=by rw [←hW4];simp
 rw [hW4];clear hW4;have S0:StK (g+1) 3 hE0 (w2.heap.size+1) (w2.heap.size+1+1) A9 n9 c9 hB [] W4:=⟨HT2.out.below hb4,q1,q2,HBY.out.below hb4,ZPC,rfl,R1.out.below hb4,fun h=>(by cases h),fun _=>rfl⟩
 have q9:=R0.out.below hb4;have hn0:0<n9:=by rw [←hn9];decide +kernel
 have hAb:∀q o,A9=some ⟨q,o,none⟩→q<w2.heap.size:=fun q o e=>by
  obtain ⟨b', o', e', hc'⟩:=HBY.out.2.2 hn0;rw [e] at e';cases e';obtain ⟨x,hx⟩:∃x,hB[0]?=some x:=⟨_,List.getElem?_eq_getElem (by rw [hn9];exact hn0)⟩
  exact World.block_lt_of_cell? w2 ⟨q,o+0,none⟩ (hc' 0 x hx)
 have hAg:∀q o,A9=some ⟨q,o,none⟩→g+1<q:=fun q o e=>by have:=HF.out q (by rw [e];rfl);have:=hWg.out;omega
 have hgle:g≤w.heap.size:=by omega
 have BW:Below g w W4:=by rw [←hg];exact B2.out.trans (hb4.mono B2.out.size)
 obtain ⟨b,hb⟩:=zc (w2.heap.size);rw [hb] at q0 q1 q2 hs4 S0 hsz2 hAb ⊢;have hgb:g+6≤b:=by have:=hWg.out;omega
 have hBB:IsB hB:=by unfold IsB;decide +kernel
 have h9:n9≤10000:=by rw [←hn9];decide +kernel
 refine Ju rfl (by omega) (gf:=60) (lb:=#[.pointer (some ⟨b+1,0,none⟩),.pointer (some ⟨b+1+1,0,none⟩)]) rfl trivial zcm
  (V9 20 (g+1) 3 hE0 zgs (b+1) (b+1+1) A9 n9 c9 hB h9 hBB) (fun s W0 args s' W1 h=>by obtain ⟨_,_,_,_,_,_,hk,_⟩:=h;exact hk) (fun s W W' h=>qO h) (fun s W0 args s' W1 h=>(StY.size _ _ _ _ _ h).trans rfl)
  (fun N s W=>StK (g+1) 3 hE0 (b+1) (b+1+1) A9 n9 c9 hB s W∧At W b 3 #[.int .i64 (s.length:Int)]∧At W g 4 #[.bool false]∧Below g w W)
  (fun N s W h=>h.1) (fun N s W W' row h hgr hr=>⟨h.1.row hgr (fun r e=>(hr r e).2.2),qf h.2.1 hgr (fun r e=>(hr r e).2.2),qf h.2.2.1 hgr (fun r e=>(hr r e).2.2),h.2.2.2.grown hgr (Nat.le_trans hgle h.2.2.2.size) (fun r e=>by have:=(hr r e).1;omega)⟩)
  (fun N s W W' _ h hb=>⟨h.1.below hb,h.2.1.below hb,h.2.2.1.below hb,zq h.2.2.2 (Nat.le_trans hgle h.2.2.2.size) hb⟩) (fun N _=>⟨S0,q0,q9,BW⟩) ?round ?done
 case round =>
  rintro l N s s' args Wa Wb hl hl2 hN hNa ⟨hS,hc,hf,hBw⟩ ⟨rr,hrr⟩ ⟨ys,u,rfl,hpre,hde,ht,hkf,hng,rfl,hrec,_⟩;rw [zaV] at hpre
  have hsl:s.length≤2:=by
   obtain ⟨t,ht⟩:=hpre;have:=congrArg List.length ht;simp at this;omega
  obtain ⟨hE3,hH3⟩:=zgr s ys hpre;unfold zdv at hE3;unfold zaO at hH3;rw [hE3];obtain ⟨v1,v2,hu9,ho1,ho2⟩:=hrec;obtain ⟨a1,a2,a3,rfl⟩:=j2 ho1;obtain ⟨d1,d2,d3,rfl⟩:=j2 ho2;rw [hH3] at hu9;subst hu9;obtain ⟨rq,hrq⟩:=zc ((JA (yk hE0 s) (ys.getD 2 0) (ZW ys) (ys.getD 3 0) (dL ys)).q);rw [hrq];have S1:=za (hS.next ht (by omega) (by omega) (by omega) (fun q o e=>by have:=hAg q o e;omega) hng)
  have C1:=za (ht.at_ hc (by simp;omega));have F1:=za (ht.at_ hf (by simp));have BW1:=za (zD.low hBw (Nat.le_trans hgle hBw.size) ht (fun q hq=>by simp at hq;omega));have hszb:b+3≤Wb.heap.size:=by have:=hl;have:=ht.size;omega
  have hbn:=zg (Below.refl _ Wb) (.cells #[.int .i64 33,rq,.slice a1 a2 a3,.slice d1 d2 d3] 49);have D0:=za (show At (Wb.alloc (.cells #[.int .i64 33,rq,.slice a1 a2 a3,.slice d1 d2 d3] 49)) Wb.heap.size 49 #[.int .i64 33,rq,.slice a1 a2 a3,.slice d1 d2 d3] from At.new _ _ _);replace S1:=za (S1.out.below hbn);replace C1:=za (C1.out.below hbn);replace F1:=za (F1.out.below hbn);replace BW1:=za (zq BW1.out (Nat.le_trans hgle BW1.out.size) hbn)
  have hbsz:=hbn.size;clear hS hc hf hBw hpre hde hkf hng hrq hE3 hH3 ho1 ho2;gi_wp2_with fail;refine ⟨qO (zg (Below.refl _ Wb) _),fun W3 hgr ho hlr=>?_⟩;have hrow:∀r,some l=some r→∃o:Obj,(Wb.alloc (.cells #[.int .i64 33,rq,.slice a1 a2 a3,.slice d1 d2 d3] 49)).heap[r]?=some o∧o.isCells=false:=fun r e=>by cases e;exact ho
  replace S1:=za (S1.out.row hgr hrow);replace C1:=za (qf C1.out hgr hrow);replace F1:=za (qf F1.out hgr hrow);replace D0:=za (qf D0.out hgr hrow);replace BW1:=za (BW1.out.grown hgr (Nat.le_trans hgle BW1.out.size) (fun r e=>by cases e;omega));have K3:=za (fun k (hk:k≠l) (hk2:k<Wb.heap.size)=>(hgr.block k (by have:=hbsz;omega) (fun e=>by cases e;exact hk rfl)).trans (hbn.block k hk2))
  clear hgr hrow hbn ho;obtain ⟨d0,d1', d2', d3'⟩:=D0.out.four;have c0:=C1.out.one;have hsi:(s.length:Int)≤2:=by omega
  have z0:=C1.out.frozen 0;gi_wp2_with fail;have OB:=z7.set b 0 W3 (.int .i64 ((s.length:Int)+1));refine ⟨zV _ _ _ _,⟨S1.out.nob (NoB.int C1.out) OB (by omega) (by omega) (by omega) (by omega) (fun q o e _=>by have:=hAb q o e;omega),?_,OB.at_ F1.out (by omega),zD.low BW1.out (Nat.le_trans hgle BW1.out.size) (OB.touch (G:=[b]) (by simp)) (fun q hq=>by simp at hq;omega)⟩,fun k h1 h2=>?_⟩
  ·rw [List.length_append]
   exact C1.out.set1 (.int .i64 ((s.length:Int)+1))
  ·exact (OB.block k (by omega)).trans (K3.out k (by omega) (by have:=ht.size;omega))
 case done =>
  rintro D N s W hD hD2 hT9 ⟨hS,hc,hf,hBw⟩ hdf;have hT9:=hT9.trans zaV;subst hT9;have HEnd:=zjo;have hok:=zdT zgs [h1B,h2B,h3B];obtain ⟨_,_,_,_,hng⟩:=hS;obtain ⟨xE,hxE⟩:∃x,yk hE0 [h1B,h2B,h3B]=x:=⟨_,rfl⟩
  rw [hxE] at HEnd hok hng;clear hxE;obtain ⟨hon,hrn,hrx⟩:=HEnd;obtain ⟨pc,hpc,hE,hO,_⟩:=hng;have hpr:=hok.pr hon;have hx1:=zeX hrx;have OQ:=za (zaE.q hO hon);have HE:=za hE;have HC:=za hc;have HFl:=za hf;have HBw:=za hBw;have HD:=za hdf;have hn1:xE.r.n≤4:=by omega
  have hpl:xE.r.p.length≤1000:=by have:=hpr.2.1.len;rw [hrn] at this;omega
  have hsl:xE.r.s.length≤1000:=by have:=hpr.2.2.len;rw [hrn] at this;omega
  clear hE hO hc hf hBw hdf hrx;gi_wp2_with fail;refine ⟨trivial,(zw 29 (JY (g+1) xE.on xE.pn xE.ps pc xE.m xE.st 3 hpc xE.r _ hn1 hpl hsl W HE.out OQ.out)).mono ?_⟩;rintro e w5 ⟨⟨v,rfl,hv⟩,hb5⟩;have HV:=za (qG.of_Q hv hpr);obtain ⟨qc,rfl,_,_⟩:=hv.agg;replace HC:=za (HC.out.below hb5);replace HFl:=za (HFl.out.below hb5);replace HBw:=za (zq HBw.out (Nat.le_trans hgle HBw.out.size) hb5)
  replace HD:=za ((hb5.block D (Array.getElem?_eq_some_iff.1 HD.out).1).trans HD.out);clear hb5 hv OQ HE;gi_wp2_with fail;refine ⟨trivial,(zw 29 HV.out.state0).mono ?_⟩;rintro e w6 ⟨A7,n7,c7,rfl,hown,hb6⟩;have hN7:=zL hown;replace HC:=za (HC.out.below hb6);replace HFl:=za (HFl.out.below hb6);replace HBw:=za (zq HBw.out (Nat.le_trans hgle HBw.out.size) hb6);replace HD:=za ((hb6.block D (Array.getElem?_eq_some_iff.1 HD.out).1).trans HD.out)
  have NX:=hown.nums;rw [hx1] at hN7 NX;clear hb6 hown HV;obtain rfl:n7=1:=hN7;obtain ⟨b7,o7,x7,rfl,hx7,x0,x1,x2,x3⟩:=NX.at_ (k:=0) (by decide);obtain rfl:_=x7:=Option.some.inj hx7;have hc7:¬c7=0:=by have:=NX.2.1;omega
  have c0:=(show At w6 b 3 #[.int .i64 3] from HC.out).one;have hl1:=zh0;have EN:=za (fun W=>VG 33554433 33554430 33554433 2 1 (by decide) (by decide) (by decide) (by decide) (by decide) (by decide) (by decide) (by decide) hl1.1 hl1.2.1 hl1.2.2 W);simp only [Nat.zero_mul,Nat.add_zero] at x0 x1 x2 x3;clear NX hx7 hl1;gi_wp2_with fail;refine ⟨trivial,(zw 29 (EN.out w6)).mono ?_⟩;rintro e w7 ⟨rfl,hb7⟩
  replace HFl:=za (HFl.out.below hb7);replace HBw:=za (zq HBw.out (Nat.le_trans hgle HBw.out.size) hb7);replace HD:=za ((hb7.block D (Array.getElem?_eq_some_iff.1 HD.out).1).trans HD.out);have z0:=HFl.out.frozen 0;have f0:=HFl.out.one;clear hb7 x0 x1 x2 x3 c0;gi_wp2_with fail;have OB:=z7.set g 0 w7 (.bool true);have K9:=(OB.block D (by omega)).trans HD.out;have d0:=(qf (HFl.out.set1 (.bool true)) (grownBy_putObj' _ D (.deferred none)) (fun r e=>by cases e;exact ⟨_,K9,rfl⟩)).one
  have BF:=zD.low HBw.out (Nat.le_trans hgle HBw.out.size) (OB.touch (G:=[g]) (by simp)) (fun q hq=>by simp at hq;omega);refine ⟨by simp,.inl ⟨_,_,rfl,run_takeDeferred K9,?_⟩⟩;exact ⟨.bool true,(by simp only [results,Tryz.results7];simp [go_sem,d0]),rfl,by rw [hg];exact qu BF (Nat.le_trans hgle BF.size) (by omega) _⟩
end
section
attribute [local go_sem] Oper.semAt_some
structure BR where
 A:Option Addr
 n:Nat
 c:Nat
 xs:List Int
def E00:ES:=⟨false,0,0,Jt,0,0⟩
theorem zgO:OkE E00:=zgs
end
end Go.Proofs.YtcoiklclbljjeaaGreatDoor.L
