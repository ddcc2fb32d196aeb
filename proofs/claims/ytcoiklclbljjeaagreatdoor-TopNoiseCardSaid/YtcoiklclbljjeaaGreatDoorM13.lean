/- Lemmas of the card's proof. -/
import Derived.Test.YtcoiklclbljjeaaGreatDoorM10
import Derived.Test.YtcoiklclbljjeaaGreatDoorM11
set_option linter.unusedVariables false
set_option linter.unusedSimpArgs false
set_option maxRecDepth 100000
set_option maxHeartbeats 16000000
namespace Go.Proofs.YtcoiklclbljjeaaGreatDoor.L
open Go.RowKit
theorem XbF {P:Prop} (h:P:=by
 go_roundw
 case rel=>exact ⟨k+1,by omega,by go_num,HJ3,HB3⟩
 case measure=>simp [intOf];omega) : P := h
theorem XaY {P:Prop} (h:P:=by
 refine bodyPost_ret (results_none rfl _ _ _) rfl ?_;exact ⟨⟨_,rfl⟩,.inr ⟨_,List.take_prefix _ _,HJ3.out⟩⟩) : P := h
section
attribute [local go_sem] Oper.semAt_some
def zgV (g:Nat):Value:=.func (.func 186) #[] #[.pointer (some ⟨g,0,none⟩),.pointer (some ⟨g+1,0,none⟩)]
theorem zhv (A A':Option Addr) (n c n' c':Nat) (w:World):Calls Tryz.prog 181 #[.slice A n c,.slice A' n' c'] w fun e w'=>e=.returned (zgV w.heap.size)∧(w.alloc (.cells #[.slice A n c] 63)).alloc (.cells #[.slice A' n' c'] 63)=w':=by
 go_enter Tryz.func181,Tryz.ntmps181;go_wp2;go_ret;exact ⟨rfl,rfl⟩
structure KB (S:Nat→Prop) (W W':World):Prop where
 os:W'.os=W.os
 tape:W'.tape=W.tape
 output:W'.output=W.output
 size:W.heap.size≤W'.heap.size
 block:∀k,S k→W'.heap[k]?=W.heap[k]?
theorem KB.refl (S:Nat→Prop) (W:World):KB S W W:=⟨rfl,rfl,rfl,Nat.le_refl _,fun _ _=>rfl⟩
theorem KB.trans {S:Nat→Prop} {A B C:World} (h:KB S A B) (k:KB S B C):KB S A C:=⟨k.os.trans h.os,k.tape.trans h.tape,k.output.trans h.output,Nat.le_trans h.size k.size,fun i hi=>(k.block i hi).trans (h.block i hi)⟩
theorem KB.drew {S:Nat→Prop} {A B:World} (h:KB S A B):KB S A B.drew:=⟨h.os,h.tape,h.output,h.size,h.block⟩
theorem KB.call {S:Nat→Prop} {A B C:World} (h:KB S A B) (hS:∀k,S k→k<A.heap.size) (k:Below B.heap.size B C):KB S A C :=
 ⟨k.os.trans h.os,k.tape.trans h.tape,k.output.trans h.output,Nat.le_trans h.size k.size,fun i hi=>(k.block i (Nat.lt_of_lt_of_le (hS i hi) h.size)).trans (h.block i hi)⟩
theorem KB.set {S:Nat→Prop} {A B:World} (h:KB S A B) {g:Nat} (hg:¬S g) (i:Nat) (u:Value):KB S A (B.setCell ⟨g,i,none⟩ u) :=
 ⟨h.os,h.tape,h.output,by have:=h.size;simpa [World.setCell] using this,fun k hk=>(Below.heap_setCell B ⟨g,i,none⟩ u k (fun e=>hg (by subst e;exact hk))).trans (h.block k hk)⟩
theorem KB.grown {S:Nat→Prop} {A B C:World} {row:Option Nat} (h:KB S A B) (hS:∀k,S k→k<A.heap.size) (hg:B.grownBy C row) (hr:∀k,row=some k→¬S k):KB S A C :=
 ⟨hg.os.trans h.os,hg.tape.trans h.tape,hg.output.trans h.output,Nat.le_trans h.size hg.size,fun i hi=>(hg.block i (Nat.lt_of_lt_of_le (hS i hi) h.size) (fun e=>hr i e.symm hi)).trans (h.block i hi)⟩
theorem KB.cell {S:Nat→Prop} {A B:World} (h:KB S A B) {b i:Nat} {v:Value} (hb:S b) (hc:A.cell? ⟨b,i,none⟩=some v):B.cell? ⟨b,i,none⟩=some v:=(World.cell?_of_block (h.block b hb)).trans hc
theorem KB.at_ {S:Nat→Prop} {A B:World} (h:KB S A B) {g:Nat} {t:TypeId} {cs:Array Value} (hb:S g) (hc:At A g t cs):At B g t cs:=(h.block g hb).trans hc
theorem KB.below {S:Nat→Prop} {A B:World} (h:KB S A B) {N:Nat} (hN:∀k,k<N→S k):Below N A B:=⟨h.os,h.tape,h.output,h.size,fun k hk=>h.block k (hN k hk)⟩
theorem KB.nums {S:Nat→Prop} {w A B:World} {a:Option Addr} {n c:Nat} {xs:List Num} (h:KB S A B) (hx:zk w a n c xs) (hA:Below w.heap.size w A) (hS:∀k,k<w.heap.size→S k):zk B a n c xs :=
 hx.keep fun b i v hc=>h.cell (hS b (World.block_lt_of_cell? w ⟨b,i,none⟩ hc)) (zR hA _ _ _ hc)
abbrev zfu (x:Num×Num):Array Value:=#[x.1.val,x.2.val]
theorem zeG {xs ys:List Num} {k:Nat} {x y:Num} (hx:xs[k]?=some x) (hy:ys[k]?=some y):(xs.zip ys).take (k+1)=(xs.zip ys).take k++[(x,y)]:=by
 have h:(xs.zip ys)[k]?=some (x,y):=by rw [List.getElem?_zip_eq_some];exact ⟨hx,hy⟩
 rw [List.take_add_one,h];rfl
theorem zhK (n:Nat) (hn1:1≤n) (Kp:World→World→Prop) (hKd:∀A B:World,Kp A B→Kp A B.drew) (hKt:∀A B C:World,Kp A B→Kp B C→Kp A C) (l g:Nat) (A A':Option Addr) (m c m' c':Nat) (xs ys:List Num) (hm1:m≤1000) (hm2:m'≤1000) (J Jx:List (Num×Num)→World→Prop)
  (hY:∀pre x W,J pre W→pre.length<min m m'→YieldAt Fence.wide (n-1) Tryz.prog l (zfu x) W fun e W' =>
   (e=.returned (.bool true)∧J (pre++[x]) W'∧Kp W W')∨(e=.returned (.bool false)∧Jx (pre++[x]) W'))
  (hJd:∀pre W,J pre W→J pre W.drew)
  (W:World) (hKr:Kp W W) (hc1:∀W', Kp W W'→W'.cell? ⟨g,0,none⟩=some (.slice A m c)) (hc2:∀W', Kp W W'→W'.cell? ⟨g+1,0,none⟩=some (.slice A' m' c'))
  (hx:∀W', Kp W W'→zk W' A m c xs) (hy:∀W', Kp W W'→zk W' A' m' c' ys) (h0:J [] W) :
  CallsIn Fence.wide n Tryz.prog 186 #[.func (.yield l) #[] #[],.pointer (some ⟨g,0,none⟩),.pointer (some ⟨g+1,0,none⟩)] W fun e W'=>(∃v,e=.returned v) ∧
   ((∃zs,zs=xs.zip ys∧J zs W')∨(∃pre,pre <+: xs.zip ys∧Jx pre W')):=by
 have hu:=Tryz.underlying71;have HX:=za hx;have HY:=za hy;have lx:=(hx W hKr).1;have ly:=(hy W hKr).1;have LX:=za lx;have LY:=za ly;have HD:=za hJd;have C1:=za hc1;have C2:=za hc2;have KD:=za hKd;have KT:=za hKt;have KR:=za hKr;have i1:=hc1 W hKr;have i2:=hc2 W hKr;have HYY:=za hY;clear hx hy lx ly hJd hY hc1 hc2 hKd hKt hKr;obtain ⟨M,hM⟩:=zc (min m m');have hM1:M≤m:=by omega
 have hM2:M≤m':=by omega
 have hMM:=za hM;have hmin:min (m:Int) (m':Int)=(M:Int):=by omega
 refine callsIn_of_wp Tryz.func186 rfl trivial ?_ rfl;simp only [Tryz.ntmps186,List.size_toArray,List.length_cons,List.length_nil,Nat.reduceAdd,Nat.reduceSub,Array.replicate_succ,Array.replicate_zero,List.push_toArray,List.append_toArray,List.nil_append,List.cons_append];clear hM;gi_wp2
 gi_loopw [4,10] (fun _ i wr=>∃k:Nat,k≤M∧i=.int .i64 k∧Hid (J ((xs.zip ys).take k) wr)∧Hid (Kp W wr)) (fun _ i _=>M-(intOf i).toNat)
 case atStart=>exact ⟨0,by omega,rfl,h0,KR⟩
 case round =>
  obtain ⟨k,hk,rfl,HJ,HB⟩:=hrel
  by_cases hlt:k<M
  ·obtain ⟨b,o,x,rfl,hxk,x0,x1,x2,x3⟩:=(HX.out wr HB.out).at_ (k:=k) (by omega)
   obtain ⟨b', o', y,rfl,hyk,y0,y1,y2,y3⟩:=(HY.out wr HB.out).at_ (k:=k) (by omega);have hlen:((xs.zip ys).take k).length<min m m':=by rw [List.length_take,List.length_zip,LX.out,LY.out,hMM.out];omega
   obtain ⟨fn,tmps,assign,body,hyy,hR⟩:=HYY.out _ (x,y) wr.drew (HD.out _ _ HJ.out) hlen;have HT:=za (zeG hxk hyk);clear hxk hyk hlen;have c1:=C1.out wr HB.out;have c2:=C2.out wr HB.out;obtain ⟨xv,xl,xh,xb⟩:=x;obtain ⟨yv,yl,yh,yb⟩:=y;dsimp only [zfu,Num.val] at hyy x0 x1 x2 x3 y0 y1 y2 y3;gi_wp2;refine Zn qJ 9 (by kernel_rfl) (by kernel_rfl) (by kernel_rfl) ?_;simp only [List.take_succ_cons,List.take_zero,List.drop_succ_cons,List.drop_zero]
   repeat (go_big_quiet_step (fail))
   refine wpQuiet_nil ?_;gi_wp2;refine hR.mono ?_;rintro e W3 (⟨rfl,hJ3,hk3⟩|⟨rfl,hJx3⟩)
   ·have HJ3:=za (show J ((xs.zip ys).take (k+1)) W3 by rw [HT.out];exact hJ3)
    have HB3:=za (KT.out _ _ _ (KD.out _ _ HB.out) hk3);clear hJ3 hk3;gi_wp2;exact XbF
   ·have HJ3:=za (show Jx ((xs.zip ys).take (k+1)) W3 by rw [HT.out];exact hJx3)
    clear hJx3;gi_wp2;exact XaY
  ·have e:(xs.zip ys).take k=xs.zip ys:=List.take_of_length_le (by rw [List.length_zip,LX.out,LY.out,hMM.out];omega)
   rw [e] at HJ;clear e;gi_wp2
   go_end0
   exact ⟨⟨_,rfl⟩,.inl ⟨_,rfl,HJ.out⟩⟩
theorem zeU (n:Nat) (hn1:1≤n) (S:Nat→Prop) (g:Nat) (A A':Option Addr) (m c m' c':Nat) (xs ys:List Num) (hm1:m≤1000) (hm2:m'≤1000) (w0 w:World) (hS:∀k,S k→k<w.heap.size) (hS0:∀k,k<w0.heap.size→S k) (hS1:S g) (hS2:S (g+1)) (hb:Below w0.heap.size w0 w)
  (hc1:w.cell? ⟨g,0,none⟩=some (.slice A m c)) (hc2:w.cell? ⟨g+1,0,none⟩=some (.slice A' m' c')) (hx:zk w0 A m c xs) (hy:zk w0 A' m' c' ys) :
  SeqStopsK Fence.wide n Tryz.prog 186 #[.pointer (some ⟨g,0,none⟩),.pointer (some ⟨g+1,0,none⟩)] zfu (KB S) (fun zs=>zs=xs.zip ys) (fun pre=>pre <+: xs.zip ys) (min m m') w:=fun l J Jx W hW hJ hJx hY h0=>by
 have k0:KB S w W:=(KB.refl S w).call hS hW
 exact zhK n hn1 (KB S) (fun _ _ h=>h.drew) (fun _ _ _ h k=>h.trans k) l g A A' m c m' c' xs ys hm1 hm2 J Jx hY (fun pre W h=>hJ pre W W.drew none h ⟨rfl,rfl,rfl,Nat.le_refl _,fun _ _ _=>rfl⟩ (fun r e=>by cases e)) W (KB.refl S W)
  (fun W' h=>(k0.trans h).cell hS1 hc1) (fun W' h=>(k0.trans h).cell hS2 hc2) (fun W' h=>(k0.trans h).nums hx hb hS0) (fun W' h=>(k0.trans h).nums hy hb hS0) h0
end
theorem XaW {P:Prop} (h:P:=by
 refine World.ownsRow.kept h hg ?_;rcases h.2 with ⟨rfl,_⟩|⟨g,cap,cur,rfl,_,hgb,_⟩
 ·exact .inl rfl
 ·refine .inr fun e'=>?_
  obtain ⟨o,ho,hc⟩:=hr g (by simpa [Value.ownBlock] using e'.symm);rw [hgb] at ho;cases ho;cases hc) : P := h
theorem XaI {P:Prop} (h:P:=by
 refine ⟨h.1,?_⟩;rcases h.2 with h0|⟨g,cap,cur,e,hg,r⟩
 ·exact .inl h0
 ·exact .inr ⟨g,cap,cur,e,Nat.le_trans hB hg,r⟩) : P := h
section
theorem ve (f:Nat):Fence.wide.fn f=True:=rfl
attribute [local go_sem] Oper.semAt_some ve
theorem jZ {o:Oper} {a:Act} {K:Act→World→Prop} {Q:Exit→Act→World→Prop} {w:World} (s x:Operand)
  (ho:o.op=.call { callee:=.builtin .append,args:=#[s,x],argTypes:=#[63,63] }) (B:Nat) (v:Value) (xs:List Num) (y:Num) (g:Nat) (hs:a.eval s=v) (hown:zH w B v xs)
  (hx:a.eval x=.slice (some ⟨g,0,none⟩) 1 1) (hy:At w g 71 #[y.v,y.l,y.h,y.bad]) (hl:xs.length≤1000) (hB:B≤w.heap.size)
  (h:∀g' c w', zH w' B (.slice (some ⟨g', 0,none⟩) (xs.length+1) c) (xs++[y])→w.grownBy w' v.ownBlock→(v.ownBlock=some g'∨g'=w.heap.size)→B≤g'→K (a.put o.dst (.slice (some ⟨g', 0,none⟩) (xs.length+1) c)) w'):o.wp Tryz.prog a w K Q:=by
 obtain ⟨i0,hi,hz0,hz1,hz2⟩:=info_parts Y7
 obtain ⟨v', w', hr,h2,h3,_,hat⟩:=run_append_own_at (P:=Tryz.prog) w B 63 o.type 71 i0 _ 4 32 Tryz.underlying63 hi hz0 hz1 hz2 rfl (by decide) v xs.length (xs.flatMap Num.cs) hown ⟨g,0,none⟩ 1 1 y.cs rfl
  (fun j u hj=>by
   rw [zkB]
   match j,hj with
   | 0,hj=>simp [Num.cs] at hj;subst hj;exact hy.cell 0
   | 1,hj=>simp [Num.cs] at hj;subst hj;exact hy.cell 1
   | 2,hj=>simp [Num.cs] at hj;subst hj;exact hy.cell 2
   | 3,hj=>simp [Num.cs] at hj;subst hj;exact hy.cell 3
   | j+4,hj=>simp [Num.cs] at hj) (fun u hu=>by simp [Num.cs] at hu;rcases hu with rfl|rfl|rfl|rfl<;>rfl) (by unfold maxLen;omega) (by omega) hB
 have e:xs.flatMap Num.cs++y.cs=(xs++[y]).flatMap Num.cs:=by simp
 rw [e] at h2;obtain ⟨g', cap,rfl,hg,hlt,hc⟩:=qk h2 (by omega);unfold Oper.wp execOp;simp only [ho,resolve,invoke,builtin,Sem.run_bind,Sem.run_pure,Result.andThen_ok,List.map_toArray,List.map_cons,List.map_nil,hs,hx,hr];refine h g' cap w' (by unfold zH;simpa using h2) h3 ?_ hg;exact XaO
def zlK (F:Nat) (f:Num→Num→Num):Prop:=∀(x y:Num) (W:World),Calls Tryz.prog F #[x.val,y.val] W fun e w'=>e=.returned (f x y).val∧Below W.heap.size W w'
def jl (ys:List Num) (w:World) (e:Ending) (w':World):Prop:=∃A n c,e=.returned (.slice A n c)∧zH w' w.heap.size (.slice A n c) ys∧Below w.heap.size w w'
theorem qf {W W':World} {row:Option Nat} {g:Nat} {t:TypeId} {cs:Array Value} (h:At W g t cs) (hg:W.grownBy W' row) (hr:∀r,row=some r→∃o:Obj,W.heap[r]?=some o∧o.isCells=false):At W' g t cs :=
 h.grown hg (fun e=>by
  obtain ⟨o,ho,hc⟩:=hr g e.symm;unfold At at h;rw [h] at ho;cases ho;cases hc)
theorem j7 {W W':World} {row:Option Nat} {B:Nat} {v:Value} {xs:List Num} (h:zH W B v xs) (hg:W.grownBy W' row) (hr:∀r,row=some r→∃o:Obj,W.heap[r]?=some o∧o.isCells=false):zH W' B v xs:=by
 exact XaW
theorem YU {S:Nat→Prop} {A W W':World} {row:Option Nat} {B:Nat} (h:KB S A W) (hS:∀k,S k→k<A.heap.size) (hB:A.heap.size≤B) (hg:W.grownBy W' row) (hr:∀r,row=some r→B≤r):KB S A W' :=
 h.grown hS hg (fun k e hk=>by have:=hr k e;have:=hS k hk;omega)
theorem zB {B:Nat} {W W':World} (h:Below W.heap.size W W'):KeepsFrom B W W':=⟨h.size,fun k o _ ho _=>(h.block k (Array.getElem?_eq_some_iff.1 ho).1).trans ho⟩
theorem jF {B N:Nat} {W W':World} {v:Value} {xs:List Num} (h:zH W N v xs) (hg:W.grownBy W' v.ownBlock):KeepsFrom B W W' :=
 ⟨hg.size,fun k o _ ho hc=>(hg.block k (Array.getElem?_eq_some_iff.1 ho).1 (fun e=>by
  rcases h.2 with ⟨rfl,_⟩|⟨g,cap,cur,rfl,_,hgb,_⟩
  ·simp [Value.ownBlock] at e
  ·obtain rfl:g=k:=by simpa [Value.ownBlock] using e.symm
   rw [hgb] at ho;cases ho;cases hc)).trans ho⟩
theorem zV (B:Nat) (W:World) (a:Addr) (v:Value):KeepsFrom B W (W.setCell a v):=(KeepsOthers.setCell W a v).from B
theorem zC.grown {w W W':World} {G:List Nat} {row:Option Nat} (h:zC w G W) (hg:W.grownBy W' row) (hr:∀k,row=some k→k∈G∨w.heap.size≤k):zC w G W' :=
 ⟨Nat.le_trans h.size hg.size,fun i hi hG=>(hg.block i (Nat.lt_of_lt_of_le hi h.size) (fun e=>by
  rcases hr i e.symm with k|k
  ·exact hG k
  ·omega)).trans (h.block i hi hG)⟩
theorem qR {v:Value} (k:Nat) (h:v.ownBlock=some k):k∈v.ownBlock.toList:=by rw [h];simp
theorem zS {w:World} {B:Nat} {v:Value} {xs:List Num} (h:zH w B v xs):∃A n c,v=.slice A n c:=by
 rcases h.2 with ⟨rfl,_⟩|⟨g,cap,cur,rfl,_⟩
 ·exact ⟨_,_,_,rfl⟩
 ·exact ⟨_,_,_,rfl⟩
theorem jW {w:World} {B B':Nat} {v:Value} {xs:List Num} (h:zH w B v xs) (hB:B'≤B):zH w B' v xs:=by
 exact XaI
theorem QV {w:World} {B l:Nat} {v:Value} {xs:List Num} {o:Obj} (h:zH w B v xs) (o':Obj) (hl:w.heap[l]?=some o) (ho:o.isCells=false):zH (w.putObj l o') B v xs:=ownsRow_putObj h o' hl ho
theorem qu {B l:Nat} {w W:World} (h:Below B w W) (hB:B≤W.heap.size) (hl:B≤l) (o:Obj):Below B w (W.putObj l o):=h.grown (grownBy_putObj' W l o) hB (fun k e=>by cases e;exact hl)
structure jD (S:Nat→Prop) (W0:World) (go:Nat) (ys:List Num) (v:Value) (W:World):Prop where
 box:At W go 63 #[v]
 own:zH W W0.heap.size v ys
 kb:KB S W0 W
theorem zfL (F : Nat) (f : Num → Num → Num) (hf : zlK F f) (heF : ∀ (args : Array Value) (W : World), (callFunc F args).run Tryz.prog W = .ok (.enter F args) W) (A A' : Option Addr) (m c m' c' : Nat) (xs ys : List Num) (hm1 : m ≤ 1000) (hm2 : m' ≤ 1000) (w : World) (hx : zk w A m c xs) (hy : zk w A' m' c' ys) :
  Calls Tryz.prog 168 #[.slice A m c, .slice A' m' c', .func (.func F) #[] #[]] w (jl ((xs.zip ys).map fun p => f p.1 p.2) w) := by
 have HX := za hx;have HY := za hy;have HF := za hf;clear hx hy hf;have hu := Tryz.underlying71;refine (callsIn_wide (n := 9)).1 ?_;refine callsIn_of_wp_marks Tryz.func168 rfl trivial ?_ rfl;simp only [Tryz.ntmps168, List.size_toArray, List.length_cons, List.length_nil, Nat.reduceAdd, Nat.reduceSub, Array.replicate_succ, Array.replicate_zero, List.push_toArray, List.append_toArray, List.nil_append, List.cons_append]
 gi_wp2_with (gi_at_call 181; refine (zw 8 (zhv _ _ _ _ _ _ _)).mono ?_; rintro e w' ⟨rfl, rfl⟩)
 have A0 := za ((((At.new w 230 #[.func (.func F) #[] #[]]).alloc (.cells #[.slice none 0 0] 63)).alloc (.cells #[.slice A m c] 63)).alloc (.cells #[.slice A' m' c'] 63));have A1 := za (((At.new (w.alloc (.cells #[.func (.func F) #[] #[]] 230)) 63 #[.slice none 0 0]).alloc (.cells #[.slice A m c] 63)).alloc (.cells #[.slice A' m' c'] 63));have A2 := za ((At.new ((w.alloc (.cells #[.func (.func F) #[] #[]] 230)).alloc (.cells #[.slice none 0 0] 63)) 63 #[.slice A m c]).alloc (.cells #[.slice A' m' c'] 63))
 have A3 := za (At.new (((w.alloc (.cells #[.func (.func F) #[] #[]] 230)).alloc (.cells #[.slice none 0 0] 63)).alloc (.cells #[.slice A m c] 63)) 63 #[.slice A' m' c']);have B0 := za (zg (zg (zg (zg (Below.refl w.heap.size w) (.cells #[.func (.func F) #[] #[]] 230)) (.cells #[.slice none 0 0] 63)) (.cells #[.slice A m c] 63)) (.cells #[.slice A' m' c'] 63));obtain ⟨W0, hW0⟩ := zc (((((w.alloc (.cells #[.func (.func F) #[] #[]] 230)).alloc (.cells #[.slice none 0 0] 63)).alloc (.cells #[.slice A m c] 63)).alloc (.cells #[.slice A' m' c'] 63)))
 simp only [World.size_alloc] at A1 A2 A3;have hWg := za (show W0.heap.size = w.heap.size + 4 by rw [← hW0]; simp);rw [hW0] at A0 A1 A2 A3 B0 ⊢;clear hW0;obtain ⟨g, hg⟩ := zc (w.heap.size);rw [hg] at A0 A1 A2 A3 B0 hWg
 try simp only [hg]
 obtain ⟨S, hSd⟩ : ∃ S : Nat → Prop, S = fun k => k < W0.heap.size ∧ k ≠ g + 1 := ⟨_, rfl⟩
 have hS : ∀ k, S k → k < W0.heap.size := fun k h => by rw [hSd] at h; exact h.1
 have hSo : ¬ S (g + 1) := fun h => by rw [hSd] at h; exact h.2 rfl
 have hSi : ∀ k, k < W0.heap.size → k ≠ g + 1 → S k := fun k h1 h2 => by rw [hSd]; exact ⟨h1, h2⟩
 have hsz := hWg.out;clear hSd
 refine wpIn_rangeFunc_ownH (α := Num × Num) rfl (by decide) (gf := 186) (lb := #[.pointer (some ⟨g + 1 + 1, 0, none⟩), .pointer (some ⟨g + 1 + 1 + 1, 0, none⟩)]) rfl trivial (enters_of Tryz.func186 (by kernel_rfl) rfl)
  (zeU 8 (by decide) S (g + 1 + 1) A A' m c m' c' xs ys hm1 hm2 w W0 hS (fun k hk => hSi k (by omega) (by omega)) (hSi _ (by omega) (by omega)) (hSi _ (by omega) (by omega)) (by rw [hg]; exact B0.out) (A2.out.cell 0) (A3.out.cell 0) HX.out HY.out)
  (fun h k => h.trans k) (fun W l o o' hl _ _ _ => ⟨rfl, rfl, rfl, by simp, fun k hk => World.putObj_heap_other (fun e => by have := hS k hk; omega)⟩) (Below.refl _ _) (fun _ => rfl)
  (fun pre W => ∃ v, jD S W0 (g + 1) (pre.map fun p => f p.1 p.2) v W) (fun _ _ _ => False)
  (by
   rintro pre W W' row ⟨v, h⟩ hgr hr;exact ⟨v, qf h.box hgr (fun r e => (hr r e).2), j7 h.own hgr (fun r e => (hr r e).2), YU h.kb hS (Nat.le_refl _) hgr (fun r e => (hr r e).1)⟩)
  (fun _ _ _ _ _ hs _ _ => hs)
  ⟨.slice none 0 0, A1.out, zH.nil_ _ _, KB.refl S W0⟩
  (fun x a' W => ∃ b1 b2 v0, At W b1 71 #[x.1.v, x.1.l, x.1.h, x.1.bad] ∧ At W b2 71 #[x.2.v, x.2.l, x.2.h, x.2.bad] ∧ At W (g + 1) 63 #[v0] ∧ v0.ownBlock ≠ some b1 ∧ v0.ownBlock ≠ some b2 ∧
   a' = { tmps := #[.slice A m c, .slice A' m' c', .func (.func F) #[] #[], undef, undef, .pointer (some ⟨g, 0, none⟩), .slice none 0 0, .pointer (some ⟨g + 1, 0, none⟩), .pointer (some ⟨b1, 0, none⟩), .pointer (some ⟨b2, 0, none⟩), .slice A m c, .slice A' m' c', zgV (g + 1 + 1), x.1.val, x.2.val, undef, undef, undef, undef, undef, undef, undef, undef], defers := [] })
  (by
   rintro x a' u W W' row ⟨b1, b2, v0, h1, h2, h3, h4, h5, h6⟩ hgr hr;exact ⟨b1, b2, v0, qf h1 hgr (fun r e => (hr r e).2), qf h2 hgr (fun r e => (hr r e).2), qf h3 hgr (fun r e => (hr r e).2), h4, h5, h6⟩)
  ?assign ?body ?done ?stop
 case assign =>
  rintro l pre ⟨⟨xv, xl, xh, xb⟩, ⟨yv, yl, yh, yb⟩⟩ W K ⟨v, h⟩ hK;dsimp only [zfu, Num.val] at hK ⊢;have H := za h;have HK := za hK;clear h hK;gi_wp2;have hb2 := za (show Below W.heap.size W ((W.alloc (.cells #[xv, xl, xh, xb] 71)).alloc (.cells #[yv, yl, yh, yb] 71)) from zg (zg (Below.refl _ _) _) _);have hk2 : KB S W ((W.alloc (.cells #[xv, xl, xh, xb] 71)).alloc (.cells #[yv, yl, yh, yb] 71)) := (KB.refl S W).call (fun k hk => Nat.lt_of_lt_of_le (hS k hk) H.out.kb.size) hb2.out
  have hne : ∀ q, W.heap.size ≤ q → v.ownBlock ≠ some q := fun q hq e => by have := (World.ownsRow.lt H.out.own q e).2; omega
  exact HK.out _ _ (zB hb2.out) hk2 ⟨v, (H.out.box.alloc _).alloc _, (H.out.own.alloc _).alloc _, H.out.kb.trans hk2⟩
   ⟨W.heap.size, W.heap.size + 1, v, (At.new _ _ _).alloc _, At.new' (by simp), (H.out.box.alloc _).alloc _, hne _ (Nat.le_refl _), hne _ (by omega), rfl⟩
 case body =>
  rintro l pre ⟨x, y⟩ a' W hl hr ⟨v, h⟩ ⟨b1, b2, v0, h1, h2, h3, h4, h5, rfl⟩ hlen
  obtain rfl : v0 = v := by
   have e := (show W.heap[g + 1]? = _ from h3).symm.trans (show W.heap[g + 1]? = _ from h.box)
   simpa using e
  have H := za h;have hpl : (pre.map fun p => f p.1 p.2).length ≤ 1000 := by rw [List.length_map]; omega
  have HL := za hpl;have HC := za (fun W => HF.out x y W);obtain ⟨r, hrr⟩ := zc (f x y);have HR := za hrr;simp only [hrr] at HC;obtain ⟨L, hL⟩ := zc ((pre.map fun p => f p.1 p.2));rw [hL] at H HL;have HLE := za hL;obtain ⟨xv, xl, xh, xb⟩ := x;obtain ⟨yv, yl, yh, yb⟩ := y;obtain ⟨rv, rl, rh, rb⟩ := r;dsimp only [Num.val] at HC h1 h2 ⊢;have a0 := (H.out.kb.at_ (hSi g (by omega) (by omega)) A0.out).cell 0
  have b0 := H.out.box.cell 0;obtain ⟨c0, c1, c2, c3⟩ := h1.four;obtain ⟨d0, d1, d2, d3⟩ := h2.four;have hgo : some (g + 1) ≠ v0.ownBlock := fun e => by have := (World.ownsRow.lt H.out.own (g + 1) e.symm).1; omega
  have hg0 : some g ≠ v0.ownBlock := fun e => by have := (World.ownsRow.lt H.out.own g e.symm).1; omega
  have hn : ∀ q, some q ≠ v0.ownBlock → q ∉ v0.ownBlock.toList := fun q h => by cases e : v0.ownBlock with
   | none => simp
   | some z => rw [e] at h; simpa using fun hq => h (by rw [hq])
  clear h h3 hL hrr hpl;gi_wp2;refine jV (by kernel_rfl) (by kernel_rfl) (by rintro ⟨a, w, h⟩; exact h) (jH v0.ownBlock.toList [0, 1, 2, 3] [4, 5, 6, 7] (.cons rfl (.cons rfl (.cons rfl (.cons rfl .nil)))) (.cons rfl (.cons rfl (.cons rfl (.cons rfl .nil)))) (by kernel_rfl) (fun c a d v w h => h) ?_);have ka0 := fun x => But.cell a0 (hn _ hg0) x;have kb0 := fun x => But.cell b0 (hn _ hgo) x;have kc0 := fun x => But.cell c0 (hn _ (Ne.symm h4)) x
  have kc1 := fun x => But.cell c1 (hn _ (Ne.symm h4)) x;have kc2 := fun x => But.cell c2 (hn _ (Ne.symm h4)) x;have kc3 := fun x => But.cell c3 (hn _ (Ne.symm h4)) x;have kd0 := fun x => But.cell d0 (hn _ (Ne.symm h5)) x;have kd1 := fun x => But.cell d1 (hn _ (Ne.symm h5)) x;have kd2 := fun x => But.cell d2 (hn _ (Ne.symm h5)) x;have kd3 := fun x => But.cell d3 (hn _ (Ne.symm h5)) x
  repeat (go_big_quiet_step (fail))
  refine wpQuiet_nil ?_;clear ka0 kb0 kc0 kc1 kc2 kc3 kd0 kd1 kd2 kd3;refine zp rfl (fun K hK => ?_);go_simp;refine (HC.out _).mono ?_;rintro e w1 ⟨rfl, hb1⟩;replace hb1 := qi hb1;refine hK _ _ (zI ((zC.refl _ _).call hb1)) ?_;clear hK K;refine zp rfl (fun K hK => ?_);go_simp;refine hK _ _ (zI (((zC.refl _ _).call hb1).alloc _)) ?_;clear hK K;refine zp rfl (fun K hK => ?_);have hsW := H.out.kb.size
  refine jZ (.tmp 15) (.tmp 20) rfl W0.heap.size v0 L ⟨rv, rl, rh, rb⟩ _ rfl ((H.out.own.below hb1).alloc _) rfl (At.new' (by simp)) HL.out (by have := hb1.size; simp; omega) ?_;intro g1 cc1 w2 hown2 hgrow2 hat2 hg1;refine hK _ _ (zI ((((zC.refl _ _).call hb1).alloc _).grown hgrow2 (fun k e => .inl (qR k e)))) ?_;clear hK K;have hbx := za ((((H.out.box.below hb1).alloc _).grown hgrow2 hgo));have e0 := hbx.out.cell 0
  have z0 := hbx.out.frozen 0;have hrowS : ∀ k, v0.ownBlock = some k → ¬ S k := fun k e hk => by have := (World.ownsRow.lt H.out.own k e).1; have := hS k hk; omega
  have hSW : ∀ k, S k → k < W.heap.size := fun k hk => Nat.lt_of_lt_of_le (hS k hk) hsW;have hkf := za ((zB (B := W0.heap.size) hb1).trans ((zB (zg (Below.refl _ _) _)).trans (jF ((H.out.own.below hb1).alloc _) hgrow2)));have hkb := za (((((KB.refl S W).call hSW hb1).call hSW (zg (Below.refl _ _) _)).grown hSW hgrow2 hrowS));have HO := za hown2;clear hown2 hgrow2 hat2 hb1;refine zZ rfl (fun K hK => ?_)
  go_simp;refine hK _ _ ?_;clear hK K
  have hfin : L ++ [(⟨rv, rl, rh, rb⟩ : Num)] = (pre ++ [((⟨xv, xl, xh, xb⟩ : Num), (⟨yv, yl, yh, yb⟩ : Num))]).map (fun p => f p.1 p.2) := by
   rw [List.map_append, HLE.out]; simp [HR.out]
  refine ⟨hkf.out.trans (zV _ _ _ _), hkb.out.set hSo _ _, .slice (some ⟨g1, 0, none⟩) (L.length + 1) cc1, hbx.out.set 0 _ rfl, ?_, (H.out.kb.trans hkb.out).set hSo _ _⟩;rw [← hfin];exact HO.out.kept (grownBy_setCell' _ _ _) (.inr (by simp [Value.ownBlock]; omega))
 case done =>
  rintro D zs W hD rfl ⟨v, h⟩ hK;have e0 := h.box.cell 0;have HK := za hK;have H := za h;have hD' := za hD;clear h hK hD;gi_wp2;refine ⟨by simp, .inl ⟨_, _, rfl, run_takeDeferred HK.out, ?_⟩⟩;obtain ⟨A1, n1, c1, rfl⟩ := zS H.out.own;have hg0 : g ≤ W0.heap.size := by omega
  refine ⟨_, results_tmp rfl _ _ _, A1, n1, c1, rfl, QV (jW H.out.own (by rw [hg]; exact hg0)) _ HK.out rfl, ?_⟩;rw [hg];exact qu (B0.out.trans (H.out.kb.below (fun k hk => hSi k (by omega) (by omega)))) (Nat.le_trans hg0 H.out.kb.size) (Nat.le_trans hg0 hD'.out) _
 case stop => exact fun D cc pre W _ _ h _ => h.elim
end
theorem Xa5 {P:Prop} (h:P:=by
 go_wp2_with fail;refine D.out.mono ?_;rintro e w1 ⟨A1,n1,c1,rfl,ho,hb1⟩;have O:=za ho;have K1:=za hb1;clear ho hb1;go_wp2_with fail;go_ret;exact ⟨A1,n1,c1,rfl,O.out,K1.out⟩) : P := h
def zbK (l:List Num):Num:=l.foldl Num.add (Num.of 0)
theorem zhz (l:List Num) (x:Num):zbK (l++[x])=(zbK l).add x:=by simp [zbK,List.foldl_append]
theorem jT {α:Type} {l:List α} {k:Nat} {x:α} (h:l[k]?=some x):l.take (k+1)=l.take k++[x]:=by rw [List.take_add_one,h];rfl
theorem At.set4 {w:World} {g:Nat} {t:TypeId} {a b c d:Value} (h:At w g t #[a,b,c,d]) (x y z u:Value):At ((((w.setCell ⟨g,0,none⟩ x).setCell ⟨g,1,none⟩ y).setCell ⟨g,2,none⟩ z).setCell ⟨g,3,none⟩ u) g t #[x,y,z,u] :=
 (((h.set 0 x rfl).set 1 y rfl).set 2 z rfl).set 3 u rfl
theorem At.far4 {w:World} {g q:Nat} {t:TypeId} {cs:Array Value} (h:At w g t cs) (hq:g≠q) (x y z u:Value):At ((((w.setCell ⟨q,0,none⟩ x).setCell ⟨q,1,none⟩ y).setCell ⟨q,2,none⟩ z).setCell ⟨q,3,none⟩ u) g t cs :=
 (((h.far (p:=⟨q,0,none⟩) hq x).far (p:=⟨q,1,none⟩) hq y).far (p:=⟨q,2,none⟩) hq z).far (p:=⟨q,3,none⟩) hq u
theorem Je {B q:Nat} {a w:World} (h:Below B a w) (hq:B≤q) (x y z u:Value):Below B a ((((w.setCell ⟨q,0,none⟩ x).setCell ⟨q,1,none⟩ y).setCell ⟨q,2,none⟩ z).setCell ⟨q,3,none⟩ u) :=
 zj (zj (zj (zj h hq _ _) hq _ _) hq _ _) hq _ _
theorem zj5 (A:Option Addr) (n c:Nat) (xs:List Num) (hn:n≤1000) (w:World) (hx:zk w A n c xs):Calls Tryz.prog 167 #[.slice A n c] w fun e w'=>e=.returned (zbK xs).val∧Below w.heap.size w w':=by
 have HX:=za hx;have LX:=za hx.1;clear hx;have hu:=Tryz.underlying71;have hm:=fun W=>zbp 0 0 0 false W;have D:=za (show ∀W,Calls Tryz.prog 224 #[.agg #[.int .i64 0,.int .i64 0,.int .i64 0,.bool false],.int .i64 0] W fun e w'=>e=.returned (Num.of 0).val∧Below W.heap.size W w' from fun W=>zep ⟨0,0,0,false⟩ 0 W);obtain ⟨z0,hz0⟩:=zc (Num.of 0);have Z0:=za (show zbK []=z0 from hz0)
 rw [hz0] at D;clear hz0;obtain ⟨r,hr⟩:=zc (zbK xs);rw [hr];have HR:=za hr;clear hr;obtain ⟨rv,rl,rh,rb⟩:=r;unfold Num.val at D ⊢;dsimp only at D ⊢;go_enter Tryz.func167,Tryz.ntmps167;go_wp2_with fail;have A0:=za ((At.new w 71 #[.int .i64 0,.int .i64 0,.int .i64 0,.bool false]).alloc (.cells #[.int .i64 0,.int .i64 0,.int .i64 0,.bool false] 71));have A1:=za (At.new (w.alloc (.cells #[.int .i64 0,.int .i64 0,.int .i64 0,.bool false] 71)) 71 #[.int .i64 0,.int .i64 0,.int .i64 0,.bool false])
 have B0:=za (zg (zg (Below.refl w.heap.size w) (.cells #[.int .i64 0,.int .i64 0,.int .i64 0,.bool false] 71)) (.cells #[.int .i64 0,.int .i64 0,.int .i64 0,.bool false] 71));obtain ⟨W0,hW0⟩:=zc (((w.alloc (.cells #[.int .i64 0,.int .i64 0,.int .i64 0,.bool false] 71)).alloc (.cells #[.int .i64 0,.int .i64 0,.int .i64 0,.bool false] 71)));simp only [World.size_alloc] at A1;have hWg:=za (show W0.heap.size=w.heap.size+2 by rw [←hW0];simp)
 rw [hW0] at A0 A1 B0 ⊢;clear hW0;obtain ⟨g,hg⟩:=zc (w.heap.size);rw [hg] at A0 A1 B0 hWg
 try simp only [hg]
 refine (D.out _).mono ?_;rintro e w1 ⟨rfl,hb1⟩;have A2':=za ((A0.out.below hb1).alloc (.cells #[z0.v,z0.l,z0.h,z0.bad] 71));have A4':=za (At.new w1 71 #[z0.v,z0.l,z0.h,z0.bad]);have KB:=za ((zq B0.out (by rw [hWg.out];omega) hb1).alloc (by have:=hb1.size;rw [hWg.out] at this;omega) (.cells #[z0.v,z0.l,z0.h,z0.bad] 71));have hq4:=za (show g+2≤w1.heap.size by have:=hb1.size;rw [hWg.out] at this;exact this)
 clear hb1 hm;go_wp2_with fail;obtain ⟨q,hq⟩:=zc (w1.heap.size);rw [hq] at A4' hq4;obtain ⟨W1,hW1⟩:=zc (w1.alloc (.cells #[z0.v,z0.l,z0.h,z0.bad] 71));rw [hW1] at A2' A4' KB ⊢;have hqs:=za (show q<W1.heap.size from A4'.out.lt)
 try simp only [hq]
 clear hW1 hq;have hloop:∀(k:Nat) (wr:World),Hid (At wr g 71 #[.int .i64 0,.int .i64 0,.int .i64 0,.bool false])→True:=fun _ _ _=>trivial;clear hloop
 go_loopw [6,12] (fun _ i wr=>∃(k:Nat) (s:Num),k≤n∧i=.int .i64 k∧Hid (zbK (xs.take k)=s)∧Hid (At wr g 71 #[.int .i64 0,.int .i64 0,.int .i64 0,.bool false])∧Hid (At wr q 71 #[s.v,s.l,s.h,s.bad])∧Hid (Below g w wr)∧Hid (g≤wr.heap.size)) (fun _ i _=>n-(intOf i).toNat)
 case atStart=>exact ⟨0,z0,by omega,rfl,Z0,A2', A4', KB,za (by have:=hq4.out;have:=hqs.out;omega)⟩
 case round =>
  obtain ⟨k,s,hk,rfl,HS,H2,H4,HB,Hg⟩:=hrel
  by_cases hlt:k<n
  ·obtain ⟨b,o,x,rfl,hxk,x0,x1,x2,x3⟩:=(HX.out.below (by rw [hg];exact HB.out)).at_ (k:=k) hlt
   have HT:=za (show zbK (xs.take (k+1))=s.add x by rw [jT hxk,zhz,HS.out]);have C:=za (fun W=>Yl s x W);obtain ⟨s', hs'⟩:=zc (s.add x);rw [hs'] at HT;simp only [hs'] at C;clear hs' hxk;obtain ⟨sv,sl,sh,sb⟩:=s;obtain ⟨xv,xl,xh,xb⟩:=x;obtain ⟨tv,tl,th,tb⟩:=s';unfold Num.val at C;dsimp only at C H4 x0 x1 x2 x3;have hm:=fun W=>Qz sv sl sh sb W;obtain ⟨s0,s1,s2,s3⟩:=H4.out.four
   have hbr:=H4.out.lt;go_wp2_with fail;refine (C.out _).mono ?_;rintro e w2 ⟨rfl,hb2⟩;have K4:=za ((H4.out.alloc (.cells #[xv,xl,xh,xb] 71)).below hb2);have K2:=za ((H2.out.alloc (.cells #[xv,xl,xh,xb] 71)).below hb2);have BB:=za (zq HB.out Hg.out (zi (zg (Below.refl wr.heap.size wr) (.cells #[xv,xl,xh,xb] 71)) hb2));have Hs:=za (show g≤w2.heap.size by have:=hb2.size;have:=Hg.out;simp at *;omega)
   clear hb2 s0 s1 s2 s3 x0 x1 x2 x3 hm hbr;obtain ⟨s0,s1,s2,s3⟩:=K4.out.four;have z0:=K4.out.frozen 0;have z1:=K4.out.frozen 1;have z2:=K4.out.frozen 2;have z3:=K4.out.frozen 3;have hgq:=hq4.out;go_wp2_with fail;go_roundw
   case rel=>exact ⟨k+1,⟨tv,tl,th,tb⟩,by omega,by go_num,HT,za (K2.out.far4 (by omega) _ _ _ _),za (K4.out.set4 _ _ _ _),za (Je BB.out (by omega) _ _ _ _),za (by simpa [World.setCell] using Hs.out)⟩
   case measure=>simp [intOf];omega
  ·have e:xs.take k=xs:=List.take_of_length_le (by rw [LX.out];omega)
   rw [e,HR.out] at HS;obtain rfl:(⟨rv,rl,rh,rb⟩:Num)=s:=HS.out;clear e;obtain ⟨s0,s1,s2,s3⟩:=H4.out.four;obtain ⟨r0,r1,r2,r3⟩:=H2.out.four;have z0:=H2.out.frozen 0;have z1:=H2.out.frozen 1;have z2:=H2.out.frozen 2;have z3:=H2.out.frozen 3;dsimp only at s0 s1 s2 s3;go_wp2_with fail;obtain ⟨d0,d1,d2,d3⟩:=(H2.out.set4 rv rl rh rb).four;exact bodyPost_ret (v:=.agg #[rv,rl,rh,rb]) (by simp [results,Tryz.results167,go_sem,d0,d1,d2,d3]) rfl ⟨rfl,Je HB.out (by omega) _ _ _ _⟩
theorem zL {w:World} {B:Nat} {A:Option Addr} {n c:Nat} {xs:List Num} (h:zH w B (.slice A n c) xs):n=xs.length:=h.nums.1.symm
theorem zkT (xs ys:List Num) (f:Num×Num→Num) (h:xs.length≤1000):((xs.zip ys).map f).length≤1000:=by rw [List.length_map,List.length_zip];omega
def Zf (xs ys:List Num):Num:=zbK ((xs.zip ys).map fun p=>p.1.mul p.2)
def Zg (xs ys:List Num):List Num:=(xs.zip ys).map fun p=>p.1.add p.2
def vB (xs ys:List Num):List Num:=(xs.zip ys).map fun p=>p.1.sub p.2
theorem zii (args:Array Value) (W:World):(callFunc 169 args).run Tryz.prog W=.ok (.enter 169 args) W:=enters_of Tryz.func169 (by kernel_rfl) rfl args W
theorem zif (args:Array Value) (W:World):(callFunc 177 args).run Tryz.prog W=.ok (.enter 177 args) W:=enters_of Tryz.func177 (by kernel_rfl) rfl args W
theorem zie (args:Array Value) (W:World):(callFunc 182 args).run Tryz.prog W=.ok (.enter 182 args) W:=enters_of Tryz.func182 (by kernel_rfl) rfl args W
theorem Zm (A A':Option Addr) (m c m' c':Nat) (xs ys:List Num) (hm1:m≤1000) (hm2:m'≤1000) (w:World) (hx:zk w A m c xs) (hy:zk w A' m' c' ys) :
  Calls Tryz.prog 145 #[.slice A m c,.slice A' m' c'] w fun e w'=>e=.returned (Zf xs ys).val∧Below w.heap.size w w':=by
 have hu:=Tryz.underlying71;have D:=za (show ∀W,Below w.heap.size w W→Calls Tryz.prog 168 #[.slice A m c,.slice A' m' c', .func (.func 169) #[] #[]] W (jl ((xs.zip ys).map fun p=>p.1.mul p.2) W) from fun W hW=>zfL 169 _ ziJ zii A A' m c m' c' xs ys hm1 hm2 W (hx.below hW) (hy.below hW));have HL:=za (zkT xs ys (fun p=>p.1.mul p.2) (by rw [hx.1];exact hm1));clear hx hy;obtain ⟨zs,hzs⟩:=zc (((xs.zip ys).map fun p=>p.1.mul p.2))
 obtain ⟨r,hr⟩:=zc (Zf xs ys);have HR:=za (show zbK zs=r by rw [←hr,←hzs];rfl);rw [hzs] at D HL;rw [hr];clear hr hzs;obtain ⟨rv,rl,rh,rb⟩:=r;unfold Num.val;dsimp only;go_enter Tryz.func145,Tryz.ntmps145;go_wp2_with fail;have A0:=za (At.new w 71 #[.int .i64 0,.int .i64 0,.int .i64 0,.bool false]);have B0:=za (zg (Below.refl w.heap.size w) (.cells #[.int .i64 0,.int .i64 0,.int .i64 0,.bool false] 71))
 obtain ⟨W0,hW0⟩:=zc ((w.alloc (.cells #[.int .i64 0,.int .i64 0,.int .i64 0,.bool false] 71)));have hWg:=za (show W0.heap.size=w.heap.size+1 by rw [←hW0];simp);rw [hW0] at A0 B0 ⊢;clear hW0;obtain ⟨g,hg⟩:=zc (w.heap.size);rw [hg] at A0 B0 hWg
 try simp only [hg]
 refine (D.out _ (by rw [hg];exact B0.out)).mono ?_;rintro e w1 ⟨A1,n1,c1,rfl,ho,hb1⟩;have O:=za ho;have K1:=za hb1;clear ho hb1;go_wp2_with fail;refine (zj5 A1 n1 c1 zs (by rw [zL O.out];exact HL.out) w1 O.out.nums).mono ?_;rw [HR.out];unfold Num.val;dsimp only;rintro e w2 ⟨rfl,hb2⟩;have A8':=za ((A0.out.below K1.out).below hb2);have KB:=za (zi K1.out hb2);clear hb2;obtain ⟨r0,r1,r2,r3⟩:=A8'.out.four
 have z0:=A8'.out.frozen 0;have z1:=A8'.out.frozen 1;have z2:=A8'.out.frozen 2;have z3:=A8'.out.frozen 3;go_wp2_with fail;have hk4:=(((A8'.out.set 0 rv rfl).set 1 rl rfl).set 2 rh rfl).set 3 rb rfl;obtain ⟨d0,d1,d2,d3⟩:=hk4.four;have hbl:=zq B0.out (by rw [hWg.out];omega) KB.out;exact bodyPost_ret (v:=.agg #[rv,rl,rh,rb]) (by simp [results,Tryz.results145,go_sem,d0,d1,d2,d3]) rfl ⟨rfl,by rw [hg];exact zj (zj (zj (zj hbl (by omega) _ _) (by omega) _ _) (by omega) _ _) (by omega) _ _⟩
theorem zdK (A A':Option Addr) (m c m' c':Nat) (xs ys:List Num) (hm1:m≤1000) (hm2:m'≤1000) (w:World) (hx:zk w A m c xs) (hy:zk w A' m' c' ys) :
  Calls Tryz.prog 158 #[.slice A m c,.slice A' m' c'] w (jl (Zg xs ys) w):=by
 have D:=za (show Calls Tryz.prog 168 #[.slice A m c,.slice A' m' c', .func (.func 177) #[] #[]] w (jl (Zg xs ys) w) from zfL 177 _ ziK zif A A' m c m' c' xs ys hm1 hm2 w hx hy);clear hx hy;go_enter Tryz.func158,Tryz.ntmps158;exact Xa5
theorem zgP (A A':Option Addr) (m c m' c':Nat) (xs ys:List Num) (hm1:m≤1000) (hm2:m'≤1000) (w:World) (hx:zk w A m c xs) (hy:zk w A' m' c' ys) :
  Calls Tryz.prog 176 #[.slice A m c,.slice A' m' c'] w (jl (vB xs ys) w):=by
 have D:=za (show Calls Tryz.prog 168 #[.slice A m c,.slice A' m' c', .func (.func 182) #[] #[]] w (jl (vB xs ys) w) from zfL 182 _ ziI zie A A' m c m' c' xs ys hm1 hm2 w hx hy);clear hx hy;go_enter Tryz.func176,Tryz.ntmps176;exact Xa5
theorem XaB {P:Prop} (h:P:=by
 rw [HT.out] at O3;go_roundw
 case rel=>exact ⟨k+1,by omega,by go_num,O3,K3⟩
 case measure=>simp [intOf];omega) : P := h
theorem Xa8 {P:Prop} (h:P:=by
 rw [e] at HO;clear e;obtain ⟨A1,n1,c1,rfl⟩:=zS HO.out;go_wp2_with fail;go_ret;exact ⟨A1,n1,c1,rfl,jW HO.out (by omega),zq (by rw [hg];exact B0.out) (by omega) HB.out⟩) : P := h
def jC (l:List Int):List Num:=l.map Num.of
def qr (l:List Num) (by_:Num):List Num:=l.map fun x=>x.mul by_
theorem vn {W0 w w':World} {v:Value} {xs:List Num} (hb:Below W0.heap.size W0 w) (hown:zH w W0.heap.size v xs) (hg:w.grownBy w' v.ownBlock):Below W0.heap.size W0 w' :=
 hb.grown hg hb.size fun k hk=>(World.ownsRow.lt hown k hk).1
theorem zc5 (A:Option Addr) (n c:Nat) (l:List Int) (hn:n≤1000) (w:World) (hx:zU w A n c l):Calls Tryz.prog 159 #[.slice A n c] w (jl (jC l) w):=by
 have HX:=za hx;have LX:=za hx.1;clear hx;have hu:=Tryz.underlying71;have hm:=fun W=>zbp 0 0 0 false W;go_enter Tryz.func159,Tryz.ntmps159;go_wp2_with fail;have A0:=za (At.new w 71 #[.int .i64 0,.int .i64 0,.int .i64 0,.bool false]);have B0:=za (zg (Below.refl w.heap.size w) (.cells #[.int .i64 0,.int .i64 0,.int .i64 0,.bool false] 71));obtain ⟨W0,hW0⟩:=zc ((w.alloc (.cells #[.int .i64 0,.int .i64 0,.int .i64 0,.bool false] 71)))
 have hWg:=za (show W0.heap.size=w.heap.size+1 by rw [←hW0];simp);rw [hW0] at A0 B0 ⊢;clear hW0;obtain ⟨g,hg⟩:=zc (w.heap.size);rw [hg] at A0 B0 hWg
 try simp only [hg]
 have hcap:=hWg.out
 go_loopw [3,6,9] (fun v _ i wr=>∃k:Nat,k≤n∧i=.int .i64 k∧Hid (zH wr W0.heap.size v (jC (l.take k)))∧Hid (Below W0.heap.size W0 wr)) (fun _ _ i _=>n-(intOf i).toNat)
 case atStart=>exact ⟨0,by omega,rfl,za (zH.nil_ _ _),za (Below.refl _ _)⟩
 case round =>
  obtain ⟨k,hk,rfl,HO,HB⟩:=hrel
  by_cases hlt:k<n
  ·obtain ⟨b,o,x,rfl,hxk,x0⟩:=((HX.out.below (by rw [hg];exact B0.out)).below HB.out).at_ (k:=k) hlt
   have HT:=za (show jC (l.take k)++[Num.of x]=jC (l.take (k+1)) by rw [jT hxk];simp [jC]);have HL:=za (show (jC (l.take k)).length≤1000 by unfold jC;rw [List.length_map,List.length_take];omega);have C:=za (fun W=>zep ⟨0,0,0,false⟩ x W);obtain ⟨y', hy'⟩:=zc (Num.of x);rw [hy'] at HT;simp only [hy'] at C;obtain ⟨L,hL⟩:=zc (jC (l.take k));rw [hL] at HO HL HT;clear hy' hxk hL
   obtain ⟨zv,zl,zh,zb⟩:=y';unfold Num.val at C;dsimp only at C;obtain ⟨s0,s1,s2,s3⟩:=(A0.out.below HB.out).four;go_wp2_with fail;refine (C.out _).mono ?_;rintro e w2 ⟨rfl,hb2⟩;have O2:=za (HO.out.below hb2);have K2:=za (zi HB.out hb2);clear hb2 s0 s1 s2 s3 x0;go_wp2_with (at_builtin;refine yJ rfl (.tmp 13) (.tmp 18) rfl W0.heap.size u3 L ⟨zv,zl,zh,zb⟩ _ rfl (O2.out.alloc _) rfl (At.new' (by simp)) HL.out (zg K2.out _).size ?_;intro g1 cc1 w3 hown hgrow hat hg1;have O3:=za hown;have K3:=za (vn (zg K2.out _) (O2.out.alloc _) hgrow);clear hown hgrow hat hg1)
   exact XaB
  ·have e:l.take k=l:=List.take_of_length_le (by rw [LX.out];omega)
   exact Xa8
theorem J9 (A:Option Addr) (n c:Nat) (xs:List Num) (y:Num) (hn:n≤1000) (w:World) (hx:zk w A n c xs):Calls Tryz.prog 157 #[.slice A n c,y.val] w (jl (qr xs y) w):=by
 have HX:=za hx;have LX:=za hx.1;clear hx;have hu:=Tryz.underlying71;obtain ⟨yv,yl,yh,yb⟩:=y;unfold Num.val;dsimp only;go_enter Tryz.func157,Tryz.ntmps157;go_wp2_with fail;have A0:=za (At.new w 71 #[yv,yl,yh,yb]);have B0:=za (zg (Below.refl w.heap.size w) (.cells #[yv,yl,yh,yb] 71));obtain ⟨W0,hW0⟩:=zc ((w.alloc (.cells #[yv,yl,yh,yb] 71)));have hWg:=za (show W0.heap.size=w.heap.size+1 by rw [←hW0];simp)
 rw [hW0] at A0 B0 ⊢;clear hW0;obtain ⟨g,hg⟩:=zc (w.heap.size);rw [hg] at A0 B0 hWg
 try simp only [hg]
 have hcap:=hWg.out
 go_loopw [5,7,10] (fun v _ i wr=>∃k:Nat,k≤n∧i=.int .i64 k∧Hid (zH wr W0.heap.size v (qr (xs.take k) ⟨yv,yl,yh,yb⟩))∧Hid (Below W0.heap.size W0 wr)) (fun _ _ i _=>n-(intOf i).toNat)
 case atStart=>exact ⟨0,by omega,rfl,za (zH.nil_ _ _),za (Below.refl _ _)⟩
 case round =>
  obtain ⟨k,hk,rfl,HO,HB⟩:=hrel
  by_cases hlt:k<n
  ·obtain ⟨b,o,x,rfl,hxk,x0,x1,x2,x3⟩:=((HX.out.below (by rw [hg];exact B0.out)).below HB.out).at_ (k:=k) hlt
   have HT:=za (show qr (xs.take k) ⟨yv,yl,yh,yb⟩++[x.mul ⟨yv,yl,yh,yb⟩]=qr (xs.take (k+1)) ⟨yv,yl,yh,yb⟩ by rw [jT hxk];simp [qr]);have HL:=za (show (qr (xs.take k) ⟨yv,yl,yh,yb⟩).length≤1000 by unfold qr;rw [List.length_map,List.length_take];omega);have C:=za (fun W=>Jb x ⟨yv,yl,yh,yb⟩ W);obtain ⟨y', hy'⟩:=zc (x.mul ⟨yv,yl,yh,yb⟩);rw [hy'] at HT;simp only [hy'] at C
   obtain ⟨L,hL⟩:=zc (qr (xs.take k) ⟨yv,yl,yh,yb⟩);rw [hL] at HO HL HT;clear hy' hxk hL;obtain ⟨zv,zl,zh,zb⟩:=y';obtain ⟨xv,xl,xh,xb⟩:=x;unfold Num.val at C;dsimp only at C x0 x1 x2 x3;have hm:=fun W=>Qy xv xl xh xb W;obtain ⟨s0,s1,s2,s3⟩:=(A0.out.below HB.out).four;have hgl:=(A0.out.below HB.out).lt;go_wp2_with fail;refine (C.out _).mono ?_;rintro e w2 ⟨rfl,hb2⟩;have O2:=za ((HO.out.alloc (.cells #[xv,xl,xh,xb] 71)).below hb2)
   have K2:=za (zi (zg HB.out (.cells #[xv,xl,xh,xb] 71)) hb2);clear hb2 s0 s1 s2 s3 x0 x1 x2 x3;go_wp2_with (at_builtin;refine yJ rfl (.tmp 14) (.tmp 19) rfl W0.heap.size u5 L ⟨zv,zl,zh,zb⟩ _ rfl (O2.out.alloc _) rfl (At.new' (by simp)) HL.out (zg K2.out _).size ?_;intro g1 cc1 w3 hown hgrow hat hg1;have O3:=za hown;have K3:=za (vn (zg K2.out _) (O2.out.alloc _) hgrow);clear hown hgrow hat hg1)
   exact XaB
  ·have e:xs.take k=xs:=List.take_of_length_le (by rw [LX.out];omega)
   exact Xa8
theorem Xbz {P:Prop} (h:P:=by
 go_enter Tryz.func144,Tryz.ntmps144;go_wp2
 all_goals (go_ret;exact ⟨by rw [E.out];rfl,rfl⟩)) : P := h
theorem XaL {P:Prop} (h:P:=by
 go_enter Tryz.func119,Tryz.ntmps119;go_wp2_with (go_at_call 144;refine (zb2 _ _).mono ?_;rintro e w' ⟨rfl,rfl⟩)
 all_goals (go_ret;exact ⟨by rw [E.out];rfl,B1.out⟩)) : P := h
def zbO (n:Int):Bool:=decide (1≤n)&&decide (n≤16)
def QR (r c:Int) (n:Nat):Bool:=zbO r&&(zbO c&&((n:Int)==r*c))
theorem Vo {n:Int}:zbO n=true↔1≤n∧n≤16:=by simp [zbO]
def zE (r c:Int) (A:Option Addr) (n cp:Nat):Value:=.agg #[r,c,.slice A n cp]
theorem zb2 (n:Int) (w:World):Calls Tryz.prog 144 #[n] w fun e w'=>e=.returned (.bool (zbO n))∧w=w':=by
 by_cases h:1≤n
 ·have E:=za (show zbO n=decide (n≤16) by unfold zbO;rw [decide_eq_true h];rfl)
  exact Xbz
 ·have E:=za (show zbO n=false by unfold zbO;rw [decide_eq_false h];rfl)
  exact Xbz
theorem qI (r c:Int) (A:Option Addr) (n cp:Nat) (w:World):Calls Tryz.prog 119 #[zE r c A n cp] w fun e w'=>e=.returned (.bool (QR r c n))∧Below w.heap.size w w':=by
 have hu:=Tryz.underlying65;unfold zE;have B1:=za (zg (Below.refl w.heap.size w) (.cells #[r,c,.slice A n cp] 65));rcases Bool.eq_false_or_eq_true (zbO r) with hr|hr
 ·rcases Bool.eq_false_or_eq_true (zbO c) with hc|hc
  ·have br:=Vo.mp hr
   have bc:=Vo.mp hc
   have hp1:r*c≤256:=by
    have:=Int.mul_le_mul br.2 bc.2 (by omega) (by decide);omega
   have hp0:0≤r*c:=Int.mul_nonneg (by omega) (by omega);obtain ⟨p,hp⟩:=zc (r*c);have E:=za (show QR r c n=((n:Int)==p) by unfold QR;rw [hr,hc,hp];rfl);rw [hp] at hp0 hp1;have HP:=za hp;exact XaL
  ·have E:=za (show QR r c n=false by unfold QR;rw [hr,hc];rfl)
   exact XaL
 ·have E:=za (show QR r c n=false by unfold QR;rw [hr];rfl)
  exact XaL
theorem zjW (b o j:Nat):(⟨b,o,none⟩:Addr).add j=⟨b,o+j,none⟩:=by unfold Addr.add;split<;>simp_all
theorem zk.cells {w:World} {b o n c:Nat} {xs:List Num} (h:∀(k:Nat) (x:Num),xs[k]?=some x→w.cell? ⟨b,o+k*4,none⟩=some (.int .i64 x.v)∧w.cell? ⟨b,o+k*4+1,none⟩=some (.int .i64 x.l)∧w.cell? ⟨b,o+k*4+2,none⟩=some (.int .i64 x.h)∧w.cell? ⟨b,o+k*4+3,none⟩=some (.bool x.bad)) :
  ∀j u,(xs.flatMap Num.cs)[j]?=some u→w.cell? ((⟨b,o,none⟩:Addr).add j)=some u:=by
 intro j u hj;rw [zjW];have hl:j<xs.length*4:=by rw [←jB];exact (List.getElem?_eq_some_iff.1 hj).1
 obtain ⟨x,hx⟩:∃x,xs[j / 4]?=some x:=⟨_,List.getElem?_eq_getElem (by omega)⟩
 have e:=zbq hx (j%4) (by omega);rw [show j / 4*4+j%4=j by omega,hj] at e;obtain ⟨h0,h1,h2,h3⟩:=h _ x hx;have hm:j%4=0∨j%4=1∨j%4=2∨j%4=3:=by omega
 rcases hm with m|m|m|m
 ·rw [m] at e;simp [Num.cs] at e;rw [e,show o+j=o+j / 4*4 by omega];exact h0
 ·rw [m] at e;simp [Num.cs] at e;rw [e,show o+j=o+j / 4*4+1 by omega];exact h1
 ·rw [m] at e;simp [Num.cs] at e;rw [e,show o+j=o+j / 4*4+2 by omega];exact h2
 ·rw [m] at e;simp [Num.cs] at e;rw [e,show o+j=o+j / 4*4+3 by omega];exact h3
theorem zjJ (xs:List Num):∀u∈xs.flatMap Num.cs,u.oneCell'=true:=by
 intro u hu;obtain ⟨x,_,hx⟩:=List.mem_flatMap.1 hu;simp [Num.cs] at hx;rcases hx with rfl|rfl|rfl|rfl<;>rfl
theorem zH.made {B:Nat} (w:World) (hB:B≤w.heap.size):zH (w.alloc (.cells #[] 71)) B (.slice (some ⟨w.heap.size,0,none⟩) 0 0) []:=World.ownsRow_made w #[] 0 hB (by decide) rfl
theorem za8 {ops:Array Oper} {rest:List Oper} {o:Oper} {a:Act} {Q:Exit→Act→World→Prop} {w:World} (hgd:o.guard=none) (s x:Operand)
  (ho:o.op=.call { callee:=.builtin .append,args:=#[s,x],argTypes:=#[63,63] }) (B:Nat) (v:Value) (xs ys:List Num) (A:Option Addr) (n c:Nat) (hs:a.eval s=v) (hown:zH w B v xs)
  (hx:a.eval x=.slice A n c) (hA:A≠none) (hy:zk w A n c ys) (hl:xs.length+n≤2000) (hB:B≤w.heap.size)
  (h:∀v' w', zH w' B v' (xs++ys)→w.grownBy w' v.ownBlock→(v'.ownBlock=v.ownBlock∨v'.ownBlock=some w.heap.size)→wpList Tryz.prog ops Q rest (a.put o.dst v') w'):wpList Tryz.prog ops Q (o::rest) a w:=by
 obtain ⟨i0,hi,hz0,hz1,hz2⟩:=info_parts Y7
 obtain ⟨ad,rfl⟩:∃ad,A=some ad:=by cases A with
  | none=>exact absurd rfl hA
  | some ad=>exact ⟨ad,rfl⟩
 refine wpList_append_own_at w hgd s x 63 ho B 71 i0 _ 4 32 Tryz.underlying63 hi hz0 hz1 hz2 rfl (by decide) v xs.length (xs.flatMap Num.cs) hs hown ad n c (ys.flatMap Num.cs) hx (by rw [jB,hy.1])
  (fun j u hj=>?_) (zjJ ys) (by unfold maxLen;omega) (by omega) hB ?_
 ·have hn:0<n:=by
   rcases Nat.eq_zero_or_pos n with h0|h0
   ·subst h0
    have:ys=[]:=List.eq_nil_of_length_eq_zero hy.1;subst this;simp at hj
   ·exact h0
  obtain ⟨b,o', e,hc⟩:=hy.2.2 hn;cases e;exact zk.cells (n:=n) (c:=c) hc j u hj
 ·intro v' w' hown' hgrow _ hat
  rw [←List.flatMap_append] at hown';exact h v' w' (by unfold zH;rw [List.length_append,hy.1];exact hown') hgrow hat
theorem jU (A:Option Addr) (n c:Nat) (xs:List Num) (hn:n≤1000) (w:World) (hx:zk w A n c xs):Calls Tryz.prog 54 #[.slice A n c] w (jl xs w):=by
 have q63:∀(w:World) (a:Option Addr) (n c n' c':Nat),(binOp .eql 63 (.slice a n c) (.slice none n' c')).run Tryz.prog w=.ok a.isNone w:=fun w a n c n' c'=>Lib.run_eql_slice_nil w _ _ a n c n' c' Tryz.underlying63;have HX:=za hx;cases A with
 | none =>
  obtain rfl:n=0:=by
   rcases Nat.eq_zero_or_pos n with h0|h0
   ·exact h0
   ·obtain ⟨b,o,e,_⟩:=hx.2.2 h0;cases e
  obtain rfl:xs=[]:=List.eq_nil_of_length_eq_zero hx.1;clear hx;go_enter Tryz.func54,Tryz.ntmps54;go_wp2;go_ret;exact ⟨_,_,_,rfl,zH.nil_ _ _,Below.refl _ _⟩
 | some ad =>
  clear hx;go_enter Tryz.func54,Tryz.ntmps54;go_wp2_with (at_builtin;go_loud (refine za8 rfl (.tmp 5) (.tmp 6) rfl w.heap.size _ [] xs (some ad) n c rfl (zH.made w (Nat.le_refl _)) rfl (by simp) (HX.out.below (zg (Below.refl _ _) _)) (by simp;omega) (by simp) ?_);intro v1 w1 hown hgrow hat;have HO:=za hown;have HG:=za hgrow;clear hown hgrow hat)
  have HB:=za ((zg (Below.refl w.heap.size w) (.cells #[] 71)).grown HG.out (by simp) (fun k hk=>by cases hk;exact Nat.le_refl _));obtain ⟨A1,n1,c1,rfl⟩:=zS HO.out;go_ret;exact ⟨A1,n1,c1,rfl,HO.out,HB.out⟩
end Go.Proofs.YtcoiklclbljjeaaGreatDoor.L
