/- Lemmas of the card's proof. -/
import Derived.Test.YtcoiklclbljjeaaGreatDoorProg
import Derived.ProofKit
import Derived.Lib.Hide
import Derived.BigQuiet
import Derived.StillTail
import Derived.Maps.AppendAt
import Derived.Shelf.Bits.Mul64
import Derived.Test.YtcoiklclbljjeaaGreatDoorM00
set_option linter.unusedVariables false
set_option linter.unusedSimpArgs false
set_option maxRecDepth 100000
set_option maxHeartbeats 16000000
namespace Go.Proofs.YtcoiklclbljjeaaGreatDoor.L
open Go.RowKit
theorem XaA {P:Prop} (h:P:=by
 go_wp2
 all_goals (go_ret;exact ⟨rfl,rfl⟩)) : P := h
def inW (n:Int):Bool:=decide (-4611686018427387903≤n)&&decide (n≤4611686018427387903)
def inF (n:Int):Bool:=decide (-1125899906842624≤n)&&decide (n≤1125899906842624)
theorem zr {n:Int}:inW n=true↔-4611686018427387903≤n∧n≤4611686018427387903:=by simp [inW]
theorem Yh {n:Int}:inF n=true↔-1125899906842624≤n∧n≤1125899906842624:=by simp [inF]
theorem zx (n:Int) (w:World):Calls Tryz.prog 64 #[n] w fun e w'=>e=.returned (.bool (inW n))∧w=w':=by
 by_cases h:-4611686018427387903≤n
 ·have e:inW n=decide (n≤4611686018427387903):=by (first | unfold inW|unfold inF);rw [decide_eq_true h];rfl
  rw [e];clear e;go_enter Tryz.func64,Tryz.ntmps64;exact XaA
 ·have e:inW n=false:=by (first | unfold inW|unfold inF);rw [decide_eq_false h];rfl
  rw [e];clear e;go_enter Tryz.func64,Tryz.ntmps64;exact XaA
theorem zfI (n:Int) (w:World):Calls Tryz.prog 184 #[n] w fun e w'=>e=.returned (.bool (decide (0≤n)&&decide (n≤2)))∧w=w':=by
 by_cases h:0≤n
 ·rw [decide_eq_true h,Bool.true_and]
  go_enter Tryz.func184,Tryz.ntmps184;exact XaA
 ·rw [decide_eq_false h,Bool.false_and]
  go_enter Tryz.func184,Tryz.ntmps184;exact XaA
theorem jM (n:Int) (w:World):Calls Tryz.prog 70 #[n] w fun e w'=>e=.returned (.bool (inF n))∧w=w':=by
 by_cases h:-1125899906842624≤n
 ·have e:inF n=decide (n≤1125899906842624):=by (first | unfold inW|unfold inF);rw [decide_eq_true h];rfl
  rw [e];clear e;go_enter Tryz.func70,Tryz.ntmps70;exact XaA
 ·have e:inF n=false:=by (first | unfold inW|unfold inF);rw [decide_eq_false h];rfl
  rw [e];clear e;go_enter Tryz.func70,Tryz.ntmps70;exact XaA
def zeK (a b:Int):Int:=if a=0∨b=0 then 0 else if (decide (a<0)!=decide (b<0))=true then -1 else 1
theorem zc4 (a b:Int) (w:World):Calls Tryz.prog 96 #[a,b] w fun e w'=>e=.returned (.int .i64 (zeK a b))∧w=w':=by
 by_cases ha:a=0
 ·have e:zeK a b=0:=if_pos (Or.inl ha)
  rw [e];clear e;have h1:(a==0)=true:=beq_iff_eq.mpr ha;clear ha;go_enter Tryz.func96,Tryz.ntmps96;exact XaA
 ·have h1:(a==0)=false:=beq_eq_false_iff_ne.mpr ha
  by_cases hb:b=0
  ·have e:zeK a b=0:=if_pos (Or.inr hb)
   rw [e];clear e;have h2:(b==0)=true:=beq_iff_eq.mpr hb;clear ha hb;go_enter Tryz.func96,Tryz.ntmps96;exact XaA
  ·have h2:(b==0)=false:=beq_eq_false_iff_ne.mpr hb
   have hor:¬(a=0∨b=0):=by intro h;rcases h with h|h;exact ha h;exact hb h
   unfold zeK;rw [if_neg hor];clear hor
   by_cases sa:a<0<;>by_cases sb:b<0
   all_goals
    first | rw [decide_eq_true sa,decide_eq_true sb]|rw [decide_eq_true sa,decide_eq_false sb]|rw [decide_eq_false sa,decide_eq_true sb]|rw [decide_eq_false sa,decide_eq_false sb]
    clear ha hb;go_enter Tryz.func96,Tryz.ntmps96;exact XaA
section
variable {w W w1:World} {g:Nat} {o:Obj} {t:TypeId} {cs cs':Array Value}
def At (w:World) (g:Nat) (t:TypeId) (cs:Array Value):Prop:=w.heap[g]?=some (.cells cs t (0,0))
theorem At.lt (h:At w g t cs):g<w.heap.size:=by
 unfold At at h;exact (Array.getElem?_eq_some_iff.mp h).1
theorem At.cell (h:At w g t cs) (i:Nat):w.cell? ⟨g,i,none⟩=cs[i]?:=by
 unfold At at h;simp [World.cell?,h]
theorem At.frozen (h:At w g t cs) (i:Nat):w.frozen? ⟨g,i,none⟩=false:=by
 unfold At at h;simp [World.frozen?,h]
theorem At.four {a b c d:Value} (h:At w g t #[a,b,c,d]):w.cell? ⟨g,0,none⟩=some a∧w.cell? ⟨g,1,none⟩=some b∧w.cell? ⟨g,2,none⟩=some c∧w.cell? ⟨g,3,none⟩=some d:=⟨h.cell 0,h.cell 1,h.cell 2,h.cell 3⟩
theorem At.below (h:At w g t cs) (hb:Below w.heap.size w w1):At w1 g t cs:=(hb.block g h.lt).trans h
theorem At.alloc (h:At w g t cs) (o:Obj):At (w.alloc o) g t cs:=(Below.heap_alloc w o g h.lt).trans h
theorem At.new (w:World) (t:TypeId) (cs:Array Value):At (w.alloc (.cells cs t)) w.heap.size t cs:=by
 show (w.heap.push _)[w.heap.size]?=_;simp
theorem At.set (h:At w g t cs) (i:Nat) (u:Value) (e:cs.setIfInBounds i u=cs'):At (w.setCell ⟨g,i,none⟩ u) g t cs':=by
 unfold At at *;simp only [World.setCell,Array.getElem?_modify,h];subst e;rfl
theorem At.far (h:At w g t cs) {p:Addr} (hp:g≠p.block) (u:Value):At (w.setCell p u) g t cs:=(Below.heap_setCell w p u g hp).trans h
theorem zi (h:Below w.heap.size w W) (k:Below W.heap.size W w1):Below w.heap.size w w1:=h.trans (k.mono h.size)
theorem Yq (h:Below w.heap.size w W) (hg:w.heap.size≤g) (i:Nat) (u:Value):Below w.heap.size w (W.setCell ⟨g,i,none⟩ u):=h.setCell hg _
theorem zg (h:Below w.heap.size w W) (o:Obj):Below w.heap.size w (W.alloc o):=h.alloc h.size o
theorem zgI (h:Below w.heap.size w W) (n:Nat):Below w.heap.size w (W.drewN n):=⟨h.os,h.tape,h.output,h.size,h.block⟩
end
theorem Xaw {P:Prop} (h:P:=by
 go_enter Tryz.func63,Tryz.ntmps63;go_wp2_with (go_at_call 70;refine (jM _ _).mono ?_;rintro e w' ⟨rfl,rfl⟩)
 all_goals (go_ret;exact ⟨rfl,(Below.refl _ _).alloc (Nat.le_refl _) _⟩)) : P := h
def Js (v l h:Int) (b:Bool):Bool:=!b&&(inF l&&(inF h&&(decide (l≤v)&&decide (v≤h))))
theorem JX (v l h:Int) (b:Bool) (w:World):Calls Tryz.prog 63 #[.agg #[v,l,h,b]] w fun e w'=>e=.returned (.bool (Js v l h b))∧Below w.heap.size w w':=by
 have hu:=Tryz.underlying71
 by_cases h1:b=true
 ·subst h1
  have e:Js v l h true=false:=rfl;rw [e];clear e;go_enter Tryz.func63,Tryz.ntmps63;go_wp2
  all_goals (go_ret;exact ⟨rfl,(Below.refl _ _).alloc (Nat.le_refl _) _⟩)
 ·have h1':b=false:=by simpa using h1
  subst h1';clear h1
  by_cases h2:inF l=true
  ·by_cases h3:inF h=true
   ·by_cases h4:l≤v
    ·have e:Js v l h false=decide (v≤h):=by unfold Js;rw [h2,h3,decide_eq_true h4];rfl
     rw [e];clear e;exact Xaw
    ·have e:Js v l h false=false:=by unfold Js;rw [h2,h3,decide_eq_false h4];rfl
     rw [e];clear e;exact Xaw
   ·have h3':inF h=false:=by simpa using h3
    have e:Js v l h false=false:=by unfold Js;rw [h2,h3'];rfl
    rw [e];clear e h3;exact Xaw
  ·have h2':inF l=false:=by simpa using h2
   have e:Js v l h false=false:=by unfold Js;rw [h2'];rfl
   rw [e];clear e h2;exact Xaw
theorem Zw (w:World):Calls Tryz.prog 154 #[] w fun e w'=>e=.returned (.agg #[.int .i64 0,.int .i64 0,.int .i64 0,.bool true])∧Below w.heap.size w w':=by
 have hu:=Tryz.underlying71;go_enter Tryz.func154,Tryz.ntmps154;go_wp2;exact bodyPost_ret (v:=.agg #[.int .i64 0,.int .i64 0,.int .i64 0,.bool true]) (by simp [results,Tryz.results154,go_sem]) rfl ⟨rfl,(Below.refl _ _).alloc (Nat.le_refl _) _⟩
theorem zar (n:Int) (w:World):Calls Tryz.prog 137 #[n] w fun e w'=>e=.returned (if inF n then .agg #[n,n,n,.bool false] else .agg #[.int .i64 0,.int .i64 0,.int .i64 0,.bool true])∧Below w.heap.size w w':=by
 have hu:=Tryz.underlying71
 by_cases h:inF n=true
 ·rw [if_pos h]
  go_enter Tryz.func137,Tryz.ntmps137;go_wp2_with (go_at_call 70;refine (jM _ _).mono ?_;rintro e w' ⟨rfl,rfl⟩)
  exact bodyPost_ret (v:=.agg #[n,n,n,.bool false]) (by simp [results,Tryz.results137,go_sem]) rfl ⟨rfl,(Below.refl _ _).alloc (Nat.le_refl _) _⟩
 ·have h':inF n=false:=by simpa using h
  rw [if_neg h];clear h;go_enter Tryz.func137,Tryz.ntmps137;go_wp2_with (first | (go_at_call 70;refine (jM _ _).mono ?_;rintro e w' ⟨rfl,rfl⟩)|(go_at_call 154;refine (Zw _).mono ?_;rintro e w1 ⟨rfl,hb⟩;have hk:=za ((At.new _ _ _).below hb);obtain ⟨hc0,hc1,hc2,hc3⟩:=hk.out.four;have hf0:=hk.out.frozen 0;have hf1:=hk.out.frozen 1;have hf2:=hk.out.frozen 2;have hf3:=hk.out.frozen 3;have hB:=za (zi (zg (Below.refl _ _) _) hb);clear hb))
  have hk4:=(((hk.out.set 0 (.int .i64 0) rfl).set 1 (.int .i64 0) rfl).set 2 (.int .i64 0) rfl).set 3 (.bool true) rfl;obtain ⟨d0,d1,d2,d3⟩:=hk4.four;exact bodyPost_ret (v:=.agg #[.int .i64 0,.int .i64 0,.int .i64 0,.bool true]) (by simp [results,Tryz.results137,go_sem,d0,d1,d2,d3]) rfl ⟨rfl,Yq (Yq (Yq (Yq hB.out (Nat.le_refl _) _ _) (Nat.le_refl _) _ _) (Nat.le_refl _) _ _) (Nat.le_refl _) _ _⟩
def Ext (w:World):Type:={W:World // Below w.heap.size w W}
def Ext.w {w:World} (x:Ext w):World:=x.1
theorem Ext.below {w:World} (x:Ext w):Below w.heap.size w x.w:=x.2
instance {w : World} : Nonempty (Ext w) := ⟨⟨w, Below.refl _ _⟩⟩
theorem Ext.cell {w:World} {b i:Nat} {v:Value} (h:w.cell? ⟨b,i,none⟩=some v) (x:Ext w):x.w.cell? ⟨b,i,none⟩=some v :=
 (x.below.cell (p:=⟨b,i,none⟩) (World.block_lt_of_cell? w ⟨b,i,none⟩ h)).trans h
theorem Calls.ext {P:Program} {f:FuncId} {args:Array Value} {w:World} {v:Value} (x:Ext w) (h:Calls P f args x.w fun e w'=>e=.returned v∧Below x.w.heap.size x.w w') :
  Calls P f args x.w fun e w''=>e=.returned v∧∃y:Ext w,w''=y.w :=
 h.mono fun _ w' ⟨he,hb⟩=>⟨he,⟨⟨w', zi x.below hb⟩,rfl⟩⟩
theorem Calls.ext_same {P:Program} {f:FuncId} {args:Array Value} {w:World} {v:Value} (x:Ext w) (h:Calls P f args x.w fun e w'=>e=.returned v∧x.w=w') :
  Calls P f args x.w fun e w''=>e=.returned v∧∃y:Ext w,w''=y.w :=
 h.mono fun _ _ ⟨he,hb⟩=>⟨he,⟨x,hb.symm⟩⟩
theorem zkw {P:Program} {Q:Exit→Act→World→Prop} {a:Act} {w:World} {l:List Oper} (hB:Region.lexB .any l.toArray=true)
  (h:wpQuiet P l.toArray (fun w'=>∃x:Ext w,w'=x.w) (fun a'=>∀w', (∃x:Ext w,w'=x.w)→Q .normal a' w') l a):wpAny P .any l.toArray Q l.toArray.size (Array.replicate l.toArray.size false) a w.drew:=by
 simp only [Region.lexB,Bool.and_eq_true] at hB;refine wpAny_of_quiet (Q:=fun a'=>∀w', (∃x:Ext w,w'=x.w)→Q .normal a' w') (fun _ w' hw' h=>h w' hw') _ _ _ _ ⟨⟨w.drew,⟨rfl,rfl,rfl,Nat.le_refl _,fun _ _=>rfl⟩⟩,rfl⟩ ?_;have:=wpAnyQ_lex (C:=fun w'=>∃x:Ext w,w'=x.w) (md:=.any) hB.1 l 0 (Array.replicate l.toArray.size false) a (by simp) (by simpa using hB.2) (by simpa using h)
 simpa using this
theorem qW {P:Program} {id:Nat} {Q:Exit→Act→World→Prop} {a:Act} {w:World} {l:List Oper} (hm:P.follows .mixedOrders=true) (hB:Region.lexB .any l.toArray=true)
  (h:wpQuiet P l.toArray (fun w'=>∃x:Ext w,w'=x.w) (fun a'=>∀w', (∃x:Ext w,w'=x.w)→Q .normal a' w') l a):(Code.region id l.toArray true).wp P Q a w :=
 wp_region_any hm (zkw hB h)
theorem XaV {P:Prop} (h:P:=by
 intro e he hb heq;have k:=hall e he hb;rw [heq,getD_both (mem_ready.1 hr).1] at k;cases k) : P := h
section
section
variable {P:Program} {ops:Array Oper} {C:World→Prop}
def zdr (P:Program) (ops:Array Oper) (C:World→Prop) (n:Nat) (L:Array Bool→Act→Prop):Nat→Array Bool→Act→Prop
 | 0,b,a=>L b a
 | f+1,b,a=>Region.ready .any ops b≠[]∧∀i∈Region.ready .any ops b,i<n∧qOp P ops C i (zdr P ops C n L f (b.setIfInBounds i true)) a
theorem VR {n g:Nat} {L:Array Bool→Act→Prop} {Q:Exit→Act→World→Prop} (hL:∀b a w,C w→L b a→wpAny P .any ops Q g b a w) :
  ∀(f:Nat) (b:Array Bool) (a:Act) (w:World),C w→zdr P ops C n L f b a→wpAny P .any ops Q (f+g) b a w
 | 0,b,a,w,hw,h=>by rw [Nat.zero_add];exact hL b a w hw h
 | f+1,b,a,w,hw,h=>by
  have e:f+1+g=(f+g)+1:=by omega
  rw [e];exact ⟨fun h0=>absurd h0 h.1,fun i hi=>wpOp_of_qOp hw (fun a' w' hw' hh=>VR hL f _ a' w' hw' hh) (h.2 i hi).2⟩
theorem zfj {n i:Nat} {oi:Oper} {v:Value} {L:Array Bool→Act→Prop} (hi:ops[i]?=some oi) (hsel:∀(j:Nat) (o:Oper) cs b,ops[j]?=some o→o.op≠.select cs b)
  (hs:Region.sinkB .any ops n=true) (hc:Region.chainB .any ops n=true) (hn:n<ops.size) (hin:i<n) (hdone:∀b a,L b a→∀j∈Region.ready .any ops b,n≤j) (f:Nat) :
  ∀(b:Array Bool) (a:Act),HeadInv .any ops n b →
   (∀j oj,ops[j]?=some oj→j≠i→b.getD j true=false→(∀e∈oj.after,Region.binds .any e=true→e.on≠i)→oi.apart ops oj=true) →
   i∈Region.ready .any ops b→YieldsIn P ops C oi v a→zdr P ops C n L f (b.setIfInBounds i true) (a.put oi.dst v)→zdr P ops C n L (f+1) b a:=by
 induction f with
 | zero =>
  intro b a inv _ hr hy H;refine ⟨fun h=>(by rw [h] at hr;cases hr),fun j hj=>?_⟩
  by_cases hji:j=i
  ·subst hji
   exact ⟨hin,hy.qOp hi H⟩
  ·have k1:=hdone _ _ H j (ready_mono hj hji)
   rcases Nat.lt_or_ge j n with k2|k2
   ·omega
   ·exact absurd hj (tail_waits hs hc hn inv _ i rfl hin (mem_ready.1 hr).1 j k2)
 | succ f ih =>
  intro b a inv hfree hr hy H;refine ⟨fun h=>(by rw [h] at hr;cases hr),fun j hj=>?_⟩
  have hjn:j<n:=by
   rcases Nat.lt_or_ge j n with k2|k2
   ·exact k2
   ·exact absurd hj (tail_waits hs hc hn inv _ i rfl hin (mem_ready.1 hr).1 j k2)
  refine ⟨hjn,?_⟩
  by_cases hji:j=i
  ·subst hji
   exact hy.qOp hi H
  ·obtain ⟨hjun,oj,hoj,hall⟩:=mem_ready.1 hj
   have hnot:∀e∈oj.after,Region.binds .any e=true→e.on≠i:=by
    exact XaV
   refine qOp_mono (fun a' h3=>?_) (qOp_put hoj (hfree j oj hoj hji hjun hnot) (fun cs b=>hsel i oi cs b hi) (fun cs b=>hsel j oj cs b hoj) hy (H.2 j (ready_mono hj hji)).2);refine ih (b.setIfInBounds j true) a' (inv.set hj hjn) (fun k ok hk hki hun hno=>?_) (ready_mono hr (Ne.symm hji)) h3.1 ?_
   ·refine hfree k ok hk hki ?_ hno
    by_cases hjk:j=k
    ·subst hjk;exact hjun
    ·rw [getD_set_ne true hjk] at hun;exact hun
   ·rw [Array.setIfInBounds_comm _ _ hji]
    exact h3.2
theorem zam {n g:Nat} {T:Act→Prop} (hsel:Region.noSelect ops=true) (hs:Region.sinkB .any ops n=true) (hc:Region.chainB .any ops n=true) (hn:n<ops.size) :
  ∀(l:List Oper) (k:Nat) (b:Array Bool) (a:Act),(∀j,j<l.length→l[j]?=ops[k+j]?)→k+l.length=n→HeadInv .any ops n b →
  Region.lexHead .any ops g l.length k b=true→wpQuiet P ops C T l a→zdr P ops C n (fun b' a'=>Region.seqB .any ops g n b'=true∧T a') l.length b a
 | [],k,b,a,_,hk,_,hB,h=>by
  obtain rfl:k=n:=by simpa using hk
  exact ⟨by simpa [Region.lexHead] using hB,h⟩
 | o::l,k,b,a,hl,hk,inv,hB,h=>by
  have h0:ops[k]?=some o:=by simpa using (hl 0 (by simp)).symm
  simp only [List.length_cons,Region.lexHead,Bool.and_eq_true] at hB;obtain ⟨⟨hr,hf⟩,hB'⟩:=hB;simp only [List.length_cons] at hk;have hr':k∈Region.ready .any ops b:=by simpa using hr
  have hq:qOp P ops C k (wpQuiet P ops C T l) a:=by unfold qOp;simp only [h0];exact h
  obtain ⟨v,hy,hK⟩:=yieldsIn_of_qOp h0 hq
  exact zfj h0 (Region.noSelect_spec hsel) hs hc hn (by omega) (fun b' a' hL=>seqB_ready hL.1) l.length b a inv (Region.free_spec h0 hf) hr' hy
   (zam hsel hs hc hn l (k+1) _ _ (fun j hj=>by
    have:=hl (j+1) (by simp;omega);rw [show k+1+j=k+(j+1) by omega,←this];simp) (by omega) (inv.set hr' (by omega)) hB' hK)
theorem zjT {Q:Exit→Act→World→Prop} {a:Act} {w:World} {l:List Oper} (n:Nat) (hB:Region.lexTailB .any l.toArray n=true)
  (h:wpQuiet P l.toArray (fun w'=>∃x:Ext w,w'=x.w) (fun a'=>∀w', (∃x:Ext w,w'=x.w)→wpList P l.toArray Q (l.drop n) a' w') (l.take n) a):wpAny P .any l.toArray Q l.toArray.size (Array.replicate l.toArray.size false) a w.drew:=by
 simp only [Region.lexTailB,Bool.and_eq_true,decide_eq_true_eq] at hB;obtain ⟨⟨⟨⟨hsel,hn⟩,hs⟩,hc⟩,hlex⟩:=hB;have hn':n<l.length:=by simpa using hn
 have htl:(l.take n).length=n:=by simp;omega
 have hdl:(l.drop n).length=l.toArray.size-n:=by simp
 have inv0:HeadInv .any l.toArray n (Array.replicate l.toArray.size false) :=
  ⟨by simp,fun j oj _ hl=>(by rw [getD_replicate_false] at hl;cases hl),fun t _ ht=>getD_in (by simpa using ht) (getD_replicate_false _ _)⟩
 have H:=zam (P:=P) (C:=fun w'=>∃x:Ext w,w'=x.w) (g:=l.toArray.size-n) hsel hs hc hn (l.take n) 0 _ a (fun j hj=>by
  rw [htl] at hj;simp [hj]) (by simpa using htl) inv0 (by rw [htl];exact hlex) h
 have R:=VR (Q:=Q) (g:=l.toArray.size-n) (fun b a' w' hw' hL=>by
  have:=wpAny_of_seq (P:=P) (md:=.any) (Q':=Q) (l.drop n) n b a' w' (fun j=>by simp [List.getElem?_drop]) (by rw [hdl];exact hL.1) (hL.2 w' hw')
  rwa [hdl] at this) _ _ _ w.drew ⟨⟨w.drew,⟨rfl,rfl,rfl,Nat.le_refl _,fun _ _=>rfl⟩⟩,rfl⟩ H
 rw [htl] at R;have e:n+(l.toArray.size-n)=l.toArray.size:=by omega
 rw [e] at R;exact R
theorem zbz {id:Nat} {Q:Exit→Act→World→Prop} {a:Act} {w:World} {l:List Oper} (n:Nat) (hm:P.follows .mixedOrders=true) (hB:Region.lexTailB .any l.toArray n=true)
  (h:wpQuiet P l.toArray (fun w'=>∃x:Ext w,w'=x.w) (fun a'=>∀w', (∃x:Ext w,w'=x.w)→wpList P l.toArray Q (l.drop n) a' w') (l.take n) a):(Code.region id l.toArray true).wp P Q a w :=
 wp_region_any hm (zjT n hB h)
end
end
theorem XaK {P:Prop} (h:P:=by
 obtain ⟨b,o,e,hc⟩:=h.2.2 (by omega);have hl:k<xs.length:=by have:=h.1;omega
 exact ⟨b,o,xs[k],e,List.getElem?_eq_getElem hl,hc k _ (List.getElem?_eq_getElem hl)⟩) : P := h
theorem XaO {P:Prop} (h:P:=by
 rcases hat with hat|hat
 ·exact Or.inl (by rw [←hat];rfl)
 ·exact Or.inr (by simpa [Value.ownBlock] using hat)) : P := h
section
structure Num where
 v:Int
 l:Int
 h:Int
 bad:Bool
 deriving DecidableEq
def Num.val (x:Num):Value:=.agg #[x.v,x.l,x.h,x.bad]
def Num.cs (x:Num):List Value:=[x.v,x.l,x.h,x.bad]
def zaG:Num:=⟨0,0,0,true⟩
def jf (n:Int):Num:=if inF n then ⟨n,n,n,false⟩ else zaG
def Num.fine (x:Num):Bool:=L.Js x.v x.l x.h x.bad
def zU (w:World) (A:Option Addr) (n c:Nat) (xs:List Int):Prop :=
 xs.length=n∧n≤c∧(0<n→∃b o,A=some ⟨b,o,none⟩∧∀k x,xs[k]?=some x→w.cell? ⟨b,o+k,none⟩=some (.int .i64 x))
def zk (w:World) (A:Option Addr) (n c:Nat) (xs:List Num):Prop :=
 xs.length=n∧n≤c∧(0<n→∃b o,A=some ⟨b,o,none⟩∧∀k x,xs[k]?=some x→w.cell? ⟨b,o+k*4,none⟩=some (.int .i64 x.v)∧w.cell? ⟨b,o+k*4+1,none⟩=some (.int .i64 x.l)∧w.cell? ⟨b,o+k*4+2,none⟩=some (.int .i64 x.h)∧w.cell? ⟨b,o+k*4+3,none⟩=some (.bool x.bad))
section
variable {w w':World} {A:Option Addr} {n c:Nat}
theorem zU.keep {xs:List Int} (h:zU w A n c xs) (hk:∀(b i:Nat) v,w.cell? ⟨b,i,none⟩=some v→w'.cell? ⟨b,i,none⟩=some v):zU w' A n c xs :=
 ⟨h.1,h.2.1,fun hn=>by
  obtain ⟨b,o,e,hc⟩:=h.2.2 hn;exact ⟨b,o,e,fun k x hx=>hk _ _ _ (hc k x hx)⟩⟩
theorem zk.keep {xs:List Num} (h:zk w A n c xs) (hk:∀(b i:Nat) v,w.cell? ⟨b,i,none⟩=some v→w'.cell? ⟨b,i,none⟩=some v):zk w' A n c xs :=
 ⟨h.1,h.2.1,fun hn=>by
  obtain ⟨b,o,e,hc⟩:=h.2.2 hn;exact ⟨b,o,e,fun k x hx=>⟨hk _ _ _ (hc k x hx).1,hk _ _ _ (hc k x hx).2.1,hk _ _ _ (hc k x hx).2.2.1,hk _ _ _ (hc k x hx).2.2.2⟩⟩⟩
theorem zR (hb:Below w.heap.size w w') (b i:Nat) (v:Value) (h:w.cell? ⟨b,i,none⟩=some v):w'.cell? ⟨b,i,none⟩=some v :=
 (hb.cell (p:=⟨b,i,none⟩) (World.block_lt_of_cell? w ⟨b,i,none⟩ h)).trans h
theorem zU.below {xs:List Int} (h:zU w A n c xs) (hb:Below w.heap.size w w'):zU w' A n c xs:=h.keep (zR hb)
theorem zk.below {xs:List Num} (h:zk w A n c xs) (hb:Below w.heap.size w w'):zk w' A n c xs:=h.keep (zR hb)
theorem zU.at_ {xs:List Int} {k:Nat} (h:zU w A n c xs) (hk:k<n):∃b o x,A=some ⟨b,o,none⟩∧xs[k]?=some x∧w.cell? ⟨b,o+k,none⟩=some (.int .i64 x):=by
 exact XaK
theorem zk.at_ {xs:List Num} {k:Nat} (h:zk w A n c xs) (hk:k<n):∃b o x,A=some ⟨b,o,none⟩∧xs[k]?=some x∧w.cell? ⟨b,o+k*4,none⟩=some (.int .i64 x.v)∧w.cell? ⟨b,o+k*4+1,none⟩=some (.int .i64 x.l)∧w.cell? ⟨b,o+k*4+2,none⟩=some (.int .i64 x.h)∧w.cell? ⟨b,o+k*4+3,none⟩=some (.bool x.bad):=by
 exact XaK
theorem zk.nil (w:World) (A:Option Addr) (c:Nat):zk w A 0 c []:=⟨rfl,Nat.zero_le _,fun h=>absurd h (by omega)⟩
theorem zU.nil (w:World) (A:Option Addr) (c:Nat):zU w A 0 c []:=⟨rfl,Nat.zero_le _,fun h=>absurd h (by omega)⟩
end
def qH (w:World) (B:Nat) (v:Value) (xs:List Int):Prop:=w.ownsRow B 3 1 v xs.length (xs.map (.int .i64))
def zH (w:World) (B:Nat) (v:Value) (xs:List Num):Prop:=w.ownsRow B 71 4 v xs.length (xs.flatMap Num.cs)
theorem Y7:(Tryz.prog.info? 71).map (fun i=>(i.zero,i.size,i.bytes))=some (some (.agg #[.int .i64 0,.int .i64 0,.int .i64 0,.bool false]),4,32):=by kernel_rfl
theorem zgn:(Tryz.prog.info? 3).map (fun i=>(i.zero,i.size,i.bytes))=some (some (.int .i64 0),1,8):=by kernel_rfl
theorem qk {w:World} {B e size n:Nat} {v:Value} {cs:List Value} (h:w.ownsRow B e size v n cs) (hn:0<n):∃g cap,v=.slice (some ⟨g,0,none⟩) n cap∧B≤g∧g<w.heap.size∧n≤cap:=by
 obtain ⟨_,⟨_,h0⟩|⟨g,cap,cur,rfl,hg,hb,hc,_⟩⟩:=h
 ·omega
 ·exact ⟨g,cap,rfl,hg,(Array.getElem?_eq_some_iff.1 hb).1,hc⟩
theorem zkB (g j:Nat):(⟨g,0,none⟩:Addr).add j=⟨g,j,none⟩:=by unfold Addr.add;split<;>simp_all
theorem jB (xs:List Num):(xs.flatMap Num.cs).length=xs.length*4:=by
 induction xs with
 | nil=>rfl
 | cons x xs ih=>rw [List.flatMap_cons,List.length_append,ih,List.length_cons];show 4+_=_;omega
theorem zbq {xs:List Num} {k:Nat} {x:Num} (h:xs[k]?=some x) (j:Nat) (hj:j<4):(xs.flatMap Num.cs)[k*4+j]?=(x.cs)[j]?:=by
 induction xs generalizing k with
 | nil=>simp at h
 | cons y ys ih =>
  rw [List.flatMap_cons];cases k with
  | zero =>
   simp at h;subst h;rw [List.getElem?_append_left (by show _<4;omega)]
   congr 1;omega
  | succ k =>
   have h':ys[k]?=some x:=by simpa using h
   rw [List.getElem?_append_right (by show 4≤_;omega)];have e:(k+1)*4+j-(Num.cs y).length=k*4+j:=by show (k+1)*4+j-4=_;omega
   rw [e];exact ih h'
theorem zH.nums {w:World} {B:Nat} {A:Option Addr} {n c:Nat} {xs:List Num} (h:zH w B (.slice A n c) xs):zk w A n c xs:=by
 obtain ⟨hl,h2⟩:=h;rcases h2 with ⟨e,h0⟩|⟨g,cap,cur,e,hg,hb,hn,hm,hs,ht⟩
 ·injection e with e1 e2 e3
  subst e1;subst e2;subst e3;obtain rfl:xs=[]:=List.eq_nil_of_length_eq_zero h0;exact zk.nil _ _ _
 ·injection e with e1 e2 e3
  subst e1;subst e3;refine ⟨e2.symm,by omega,fun _=>⟨g,0,rfl,fun k x hx=>?_⟩⟩;have hk:k<xs.length:=(List.getElem?_eq_some_iff.1 hx).1
  have hcell:∀j,j<4→w.cell? ⟨g,0+k*4+j,none⟩=(x.cs)[j]?:=by
   intro j hj;have e:w.cell? ⟨g,0+k*4+j,none⟩=cur[0+k*4+j]?:=by simp [World.cell?,hb]
   rw [e,←Array.getElem?_toList,←zbq hx j hj,←ht,List.getElem?_take_of_lt (by omega),Nat.zero_add]
  exact ⟨hcell 0 (by decide),hcell 1 (by decide),hcell 2 (by decide),hcell 3 (by decide)⟩
theorem qH.ints {w:World} {B:Nat} {A:Option Addr} {n c:Nat} {xs:List Int} (h:qH w B (.slice A n c) xs):zU w A n c xs:=by
 obtain ⟨hl,h2⟩:=h;rcases h2 with ⟨e,h0⟩|⟨g,cap,cur,e,hg,hb,hn,hm,hs,ht⟩
 ·injection e with e1 e2 e3
  subst e1;subst e2;subst e3;obtain rfl:xs=[]:=List.eq_nil_of_length_eq_zero h0;exact zU.nil _ _ _
 ·injection e with e1 e2 e3
  subst e1;subst e3;refine ⟨e2.symm,by omega,fun _=>⟨g,0,rfl,fun k x hx=>?_⟩⟩;have hk:k<xs.length:=(List.getElem?_eq_some_iff.1 hx).1;have e:w.cell? ⟨g,0+k,none⟩=cur[0+k]?:=by simp [World.cell?,hb]
  rw [e,←Array.getElem?_toList,Nat.zero_add];have:cur.toList[k]?=(xs.map (Value.int .i64))[k]?:=by rw [←ht,List.getElem?_take_of_lt (by omega)]
  rw [this,List.getElem?_map,hx];rfl
theorem zH.nil_ (w:World) (B:Nat):zH w B (.slice none 0 0) []:=World.ownsRow_nil _ _ _ _
theorem qH.nil_ (w:World) (B:Nat):qH w B (.slice none 0 0) []:=World.ownsRow_nil _ _ _ _
theorem zH.kept {w w':World} {B:Nat} {v:Value} {xs:List Num} {row:Option Nat} (h:zH w B v xs) (hg:w.grownBy w' row) (hne:v.ownBlock=none∨v.ownBlock≠row):zH w' B v xs:=World.ownsRow.kept h hg hne
theorem qH.kept {w w':World} {B:Nat} {v:Value} {xs:List Int} {row:Option Nat} (h:qH w B v xs) (hg:w.grownBy w' row) (hne:v.ownBlock=none∨v.ownBlock≠row):qH w' B v xs:=World.ownsRow.kept h hg hne
theorem zN {w w':World} (h:Below w.heap.size w w'):w.grownBy w' none:=⟨h.os,h.tape,h.output,h.size,fun k hk _=>h.block k hk⟩
theorem zH.below {w w':World} {B:Nat} {v:Value} {xs:List Num} (h:zH w B v xs) (hb:Below w.heap.size w w'):zH w' B v xs:=h.kept (zN hb) (by cases v.ownBlock<;>simp)
theorem qH.below {w w':World} {B:Nat} {v:Value} {xs:List Int} (h:qH w B v xs) (hb:Below w.heap.size w w'):qH w' B v xs:=h.kept (zN hb) (by cases v.ownBlock<;>simp)
theorem vA {ops:Array Oper} {rest:List Oper} {o:Oper} {a:Act} {Q:Exit→Act→World→Prop} {w:World} (hgd:o.guard=none) (s x:Operand)
  (ho:o.op=.call { callee:=.builtin .append,args:=#[s,x],argTypes:=#[22,22] }) (B:Nat) (v:Value) (xs:List Int) (y:Int) (g:Nat) (hs:a.eval s=v) (hown:qH w B v xs)
  (hx:a.eval x=.slice (some ⟨g,0,none⟩) 1 1) (hy:At w g 3 #[.int .i64 y]) (hl:xs.length≤1000) (hB:B≤w.heap.size)
  (h:∀g' c w', qH w' B (.slice (some ⟨g', 0,none⟩) (xs.length+1) c) (xs++[y])→w.grownBy w' v.ownBlock→(v.ownBlock=some g'∨g'=w.heap.size)→B≤g'→wpList Tryz.prog ops Q rest (a.put o.dst (.slice (some ⟨g', 0,none⟩) (xs.length+1) c)) w'):wpList Tryz.prog ops Q (o::rest) a w:=by
 obtain ⟨i0,hi,hz0,hz1,hz2⟩:=info_parts zgn
 refine wpList_append_own_at w hgd s x 22 ho B 3 i0 (.int .i64 0) 1 8 Tryz.underlying22 hi hz0 hz1 hz2 rfl (by decide) v xs.length (xs.map (.int .i64)) hs hown ⟨g,0,none⟩ 1 1 [.int .i64 y] hx rfl
  (fun j u hj=>?_) (fun u hu=>by simp at hu;subst hu;rfl) (by unfold maxLen;omega) (by omega) hB ?_
 ·match j,hj with
  | 0,hj=>simp at hj;subst hj;exact hy.cell 0
  | j+1,hj=>simp at hj
 ·intro v' w' hown' hgrow _ hat
  have e:xs.map (Value.int .i64)++[.int .i64 y]=(xs++[y]).map (.int .i64):=by simp
  rw [e] at hown';obtain ⟨g', cap,rfl,hg,hlt,hc⟩:=qk hown' (by omega);refine h g' cap w' (by unfold qH;simpa using hown') hgrow ?_ hg;exact XaO
theorem yJ {ops:Array Oper} {rest:List Oper} {o:Oper} {a:Act} {Q:Exit→Act→World→Prop} {w:World} (hgd:o.guard=none) (s x:Operand)
  (ho:o.op=.call { callee:=.builtin .append,args:=#[s,x],argTypes:=#[63,63] }) (B:Nat) (v:Value) (xs:List Num) (y:Num) (g:Nat) (hs:a.eval s=v) (hown:zH w B v xs)
  (hx:a.eval x=.slice (some ⟨g,0,none⟩) 1 1) (hy:At w g 71 #[y.v,y.l,y.h,y.bad]) (hl:xs.length≤1000) (hB:B≤w.heap.size)
  (h:∀g' c w', zH w' B (.slice (some ⟨g', 0,none⟩) (xs.length+1) c) (xs++[y])→w.grownBy w' v.ownBlock→(v.ownBlock=some g'∨g'=w.heap.size)→B≤g'→wpList Tryz.prog ops Q rest (a.put o.dst (.slice (some ⟨g', 0,none⟩) (xs.length+1) c)) w'):wpList Tryz.prog ops Q (o::rest) a w:=by
 obtain ⟨i0,hi,hz0,hz1,hz2⟩:=info_parts Y7
 refine wpList_append_own_at w hgd s x 63 ho B 71 i0 _ 4 32 Tryz.underlying63 hi hz0 hz1 hz2 rfl (by decide) v xs.length (xs.flatMap Num.cs) hs hown ⟨g,0,none⟩ 1 1 y.cs hx rfl
  (fun j u hj=>?_) (fun u hu=>by simp [Num.cs] at hu;rcases hu with rfl|rfl|rfl|rfl<;>rfl) (by unfold maxLen;omega) (by omega) hB ?_
 ·rw [zkB]
  match j,hj with
  | 0,hj=>simp [Num.cs] at hj;subst hj;exact hy.cell 0
  | 1,hj=>simp [Num.cs] at hj;subst hj;exact hy.cell 1
  | 2,hj=>simp [Num.cs] at hj;subst hj;exact hy.cell 2
  | 3,hj=>simp [Num.cs] at hj;subst hj;exact hy.cell 3
  | j+4,hj=>simp [Num.cs] at hj
 ·intro v' w' hown' hgrow _ hat
  have e:xs.flatMap Num.cs++y.cs=(xs++[y]).flatMap Num.cs:=by simp
  rw [e] at hown';obtain ⟨g', cap,rfl,hg,hlt,hc⟩:=qk hown' (by omega);refine h g' cap w' (by unfold zH;simpa using hown') hgrow ?_ hg;exact XaO
end
theorem XaT {P:Prop} (h:P:=by
 go_enter Tryz.func99,Tryz.ntmps99;go_wp2
 all_goals (go_ret;exact ⟨rfl,((Below.refl _ _).alloc (Nat.le_refl _) _).alloc (by simp) _⟩)) : P := h
def sz (n:Int):Int:=if n<0 then -n else n
theorem zlj {n:Int} (h:n<0):sz n=-n:=if_pos h
theorem zbJ {n:Int} (h:¬n<0):sz n=n:=if_neg h
def hi (x y:Int):Int:=x*y / 18446744073709551616
def lo (x y:Int):Int:=x*y%18446744073709551616
def lt2 (a b c d:Int):Bool:=decide (a<c) || (a==c&&decide (b<d))
theorem zA (n:Int) (w:World) (h0:-4611686018427387903≤n) (h1:n≤4611686018427387903):Calls Tryz.prog 98 #[n] w fun e w'=>e=.returned (.int .u64 (sz n))∧w=w':=by
 have e1:wrap64 (-n)=-n:=by unfold wrap64;omega
 by_cases h:n<0
 ·rw [zlj h]
  go_enter Tryz.func98,Tryz.ntmps98;exact XaA
 ·rw [zbJ h]
  go_enter Tryz.func98,Tryz.ntmps98;exact XaA
theorem zfD (x y:Nat) (hx:x<18446744073709551616) (hy:y<18446744073709551616) (w:World) :
  Calls Tryz.prog 126 #[.int .u64 x,.int .u64 y] w fun e w'=>e=.returned (.tuple #[.int .u64 ((x*y / 18446744073709551616:Nat):Int),.int .u64 ((x*y%18446744073709551616:Nat):Int)])∧w=w':=by
 obtain ⟨bd,bt,bw,hhi⟩:=Lib.mul64_hi x y hx hy;have ba:=Lib.half_mul_le (a:=x / 4294967296) (b:=y / 4294967296) (by omega) (by omega);have bb:=Lib.half_mul_le (a:=x / 4294967296) (b:=y%4294967296) (by omega) (by omega);have bc:=Lib.half_mul_le (a:=x%4294967296) (b:=y / 4294967296) (by omega) (by omega);have ba':x / 4294967296*(y / 4294967296)<18446744073709551616:=by omega
 have bb':x / 4294967296*(y%4294967296)<18446744073709551616:=by omega
 have bc':x%4294967296*(y / 4294967296)<18446744073709551616:=by omega
 have bh1:x / 4294967296*(y / 4294967296)+(x / 4294967296*(y%4294967296)+x%4294967296*(y%4294967296) / 4294967296) / 4294967296<18446744073709551616:=by omega
 have bh:x / 4294967296*(y / 4294967296)+(x / 4294967296*(y%4294967296)+x%4294967296*(y%4294967296) / 4294967296) / 4294967296+((x / 4294967296*(y%4294967296)+x%4294967296*(y%4294967296) / 4294967296)%4294967296+x%4294967296*(y / 4294967296)) / 4294967296<18446744073709551616:=by omega
 go_enter Tryz.func126,Tryz.ntmps126;go_wp2;simp only [Mul64.maskN x hx,Mul64.maskN y hy,Mul64.divN,Mul64.mulN,Mul64.addN,Mul64.wrapN _ bd,Mul64.wrapN _ bb', Mul64.wrapN _ bt,Mul64.maskN _ bt,Mul64.wrapN _ bc', Mul64.wrapN _ bw,Mul64.wrapN _ ba', Mul64.wrapN _ bh1,Mul64.wrapN _ bh,Mul64.wrapM (x*y)];rw [hhi]
 go_ret2
 exact ⟨rfl,rfl⟩
theorem zgG (x y:Int) (hx:0≤x∧x<18446744073709551616) (hy:0≤y∧y<18446744073709551616) (w:World) :
  Calls Tryz.prog 126 #[.int .u64 x,.int .u64 y] w fun e w'=>e=.returned (.tuple #[.int .u64 (hi x y),.int .u64 (lo x y)])∧w=w':=by
 obtain ⟨a,rfl⟩:=Int.eq_ofNat_of_zero_le hx.1;obtain ⟨b,rfl⟩:=Int.eq_ofNat_of_zero_le hy.1;refine (zfD a b (by omega) (by omega) w).mono ?_;rintro e w' ⟨rfl,rfl⟩;refine ⟨?_,rfl⟩;simp only [hi,lo,Int.natCast_mul,Int.natCast_ediv,Int.natCast_emod];rfl
theorem zW (x y:Int) (hx:0≤x∧x<18446744073709551616) (hy:0≤y∧y<18446744073709551616) (w:World) :
  Calls Tryz.prog 97 #[.int .u64 x,.int .u64 y] w fun e w'=>e=.returned (.agg #[.int .u64 (hi x y),.int .u64 (lo x y)])∧Below w.heap.size w w':=by
 go_enter Tryz.func97,Tryz.ntmps97;go_wp2_with (go_at_call 126;refine (zgG _ _ hx hy _).mono ?_;rintro e w' ⟨rfl,rfl⟩)
 exact bodyPost_ret (v:=.agg #[.int .u64 (hi x y),.int .u64 (lo x y)]) (by simp [results,Tryz.results97,go_sem]) rfl ⟨rfl,(Below.refl _ _).alloc (Nat.le_refl _) _⟩
theorem ZA (a b c d:Int) (w:World) :
  Calls Tryz.prog 99 #[.agg #[.int .u64 a,.int .u64 b],.agg #[.int .u64 c,.int .u64 d]] w fun e w'=>e=.returned (.bool (lt2 a b c d))∧Below w.heap.size w w':=by
 by_cases h1:a<c
 ·have e:lt2 a b c d=true:=by unfold lt2;rw [decide_eq_true h1];rfl
  rw [e];clear e;exact XaT
 ·by_cases h2:a=c
  ·have e:lt2 a b c d=decide (b<d):=by unfold lt2;rw [decide_eq_false h1,beq_iff_eq.mpr h2];rfl
   rw [e];clear e;have h3:(a==c)=true:=beq_iff_eq.mpr h2;clear h2;exact XaT
  ·have h3:(a==c)=false:=beq_eq_false_iff_ne.mpr h2
   have e:lt2 a b c d=false:=by unfold lt2;rw [decide_eq_false h1,h3];rfl
   rw [e];clear e h2;exact XaT
theorem Xa3 {P:Prop} (h:P:=by
 unfold lt2 hi lo;have e:=Int.mul_ediv_add_emod (x*y) 18446744073709551616;generalize x*y=q at *;rw [Bool.eq_iff_iff];simp only [Bool.or_eq_true,Bool.and_eq_true,decide_eq_true_eq,beq_iff_eq];omega) : P := h
theorem zg5 {x y:Int} {p0 p1 P:Int} (hP:P=p0*18446744073709551616+p1) (h1:0≤p1∧p1<18446744073709551616):lt2 p0 p1 (hi x y) (lo x y)=decide (P<x*y):=by
 exact Xa3
theorem zfa {x y:Int} {p0 p1 P:Int} (hP:P=p0*18446744073709551616+p1) (h1:0≤p1∧p1<18446744073709551616):lt2 (hi x y) (lo x y) p0 p1=decide (x*y<P):=by
 exact Xa3
theorem zhd {x y:Int} {p0 p1 P:Int} (hP:P=p0*18446744073709551616+p1) (h1:0≤p1∧p1<18446744073709551616):(hi x y==p0&&lo x y==p1)=(x*y==P):=by
 unfold hi lo;have e:=Int.mul_ediv_add_emod (x*y) 18446744073709551616;generalize x*y=q at *;rw [Bool.eq_iff_iff];simp only [Bool.and_eq_true,beq_iff_eq];omega
def yK (P r:Int) (k:Nat):Int:=if P<(r+2^(62-k))*(r+2^(62-k)) then r else r+2^(62-k)
def qd (P:Int):Nat→Int
 | 0=>0
 | k+1=>yK P (qd P k) k
theorem zbF {k:Nat} (hk:k<63):(2:Int)^(63-k)=2*2^(62-k):=by rw [show 63-k=(62-k)+1 by omega,Int.pow_succ,Int.mul_comm]
theorem vM (P:Int):∀k,k≤63→0≤qd P k∧qd P k≤2^63-2^(63-k)∧∃c,qd P k=2^(63-k)*c:=by
 intro k
 induction k with
 | zero=>intro _;exact ⟨Int.le_refl _,by simp [qd],0,by simp [qd]⟩
 | succ k ih =>
  intro hk;obtain ⟨h0,h1,c,hc⟩:=ih (by omega);have e:=zbF (k:=k) (by omega);have e2:63-(k+1)=62-k:=by omega
  rw [e2];show 0≤yK _ _ _∧yK _ _ _≤_∧∃c,yK _ _ _=_;have hp:(0:Int)<2^(62-k):=Int.pow_pos (by decide);rw [e] at h1 hc;unfold yK
  split
  ·exact ⟨h0,by omega,2*c,by rw [hc,Int.mul_left_comm,Int.mul_assoc]⟩
  ·exact ⟨by omega,by omega,2*c+1,by rw [hc,Int.mul_add,Int.mul_one,Int.mul_left_comm,Int.mul_assoc]⟩
theorem zkJ (P:Int) (K:Nat) (h:K<63):bits .or .u64 (qd P K) (IntKind.u64.wrap (2^(62-K)))=qd P K+2^(62-K):=by
 obtain ⟨h0,h1,c,hc⟩:=vM P K (by omega);have e:=zbF (k:=K) h;rw [e] at hc h1;have hp:(0:Int)<2^(62-K):=Int.pow_pos (by decide)
 have hc0:0≤c:=by
  rcases Int.lt_or_le c 0 with h|h
  ·have:2*2^(62-K)*c<0:=Int.mul_neg_of_pos_of_neg (by omega) h
   omega
  ·exact h
 obtain ⟨n,rfl⟩:=Int.eq_ofNat_of_zero_le hc0
 have hlt:(2:Int)^(62-K)<2^63:=by
  have h1:2^(62-K)≤2^62:=Nat.pow_le_pow_right (by decide) (by omega);have h2:(2:Int)^(62-K)=((2^(62-K):Nat):Int):=by simp
  omega
 have e1:qd P K=((2^((62-K)+1)*n:Nat):Int):=by rw [hc];simp [Int.pow_succ,Int.mul_comm]
 have e2:(2:Int)^(62-K)=((2^(62-K):Nat):Int):=by simp
 have w1:IntKind.u64.wrap (2^(62-K))=((2^(62-K):Nat):Int):=by rw [IntKind.wrap_u64,e2];omega
 rw [w1,e1,bits_or_u64_nat _ _ (by omega) (by omega)];have:=Nat.two_pow_add_eq_or_of_lt (show 2^(62-K)<2^((62-K)+1) from Nat.pow_lt_pow_right (by decide) (by omega)) n;rw [←this];simp
theorem zkI (P:Int) (hP:0≤P) (hP2:P<2^126):∀k,k≤63→qd P k*qd P k≤P∧P<(qd P k+2^(63-k))*(qd P k+2^(63-k)):=by
 intro k
 induction k with
 | zero=>intro _;exact ⟨by simpa [qd] using hP,by simp only [qd];exact hP2⟩
 | succ k ih =>
  intro hk;obtain ⟨h0,h1⟩:=ih (by omega);have e:=zbF (k:=k) (by omega);have e2:63-(k+1)=62-k:=by omega
  rw [e2];show yK _ _ _*yK _ _ _≤_∧_;have e3:qd P (k+1)=yK P (qd P k) k:=rfl;rw [e3];unfold yK
  split
  ·rename_i h;exact ⟨h0,h⟩
  ·rename_i h
   refine ⟨by omega,?_⟩;rw [e] at h1;have:qd P k+2^(62-k)+2^(62-k)=qd P k+2*2^(62-k):=by omega
   rw [this];exact h1
def vL (n:Int) (is:Bool) (l:List Int):Int×Bool:=if (is&&(l++[n]).all inF)=true then (n,true) else (0,false)
theorem zgR {n:Int} {is:Bool} {l:List Int} (h:is=false∨∃k,k<l.length+1∧inF ((l++[n]).getD k 0)=false):vL n is l=(0,false):=by
 unfold vL;rw [if_neg];intro hh;rw [Bool.and_eq_true,List.all_eq_true] at hh;rcases h with h|⟨k,hk,h⟩
 ·rw [h] at hh;exact absurd hh.1 (by decide)
 ·have hk':k<(l++[n]).length:=by simpa using hk
  have:=hh.2 ((l++[n]).getD k 0) (by simp only [List.getD,List.getElem?_eq_getElem hk', Option.getD_some];exact List.getElem_mem hk');rw [h] at this;exact absurd this (by decide)
theorem ziN {n:Int} {is:Bool} {l:List Int} (h:is=true) (hl:∀k,k<l.length+1→inF ((l++[n]).getD k 0)=true):vL n is l=(n,true):=by
 unfold vL;rw [if_pos];rw [h,Bool.true_and,List.all_eq_true];intro x hx;obtain ⟨k,hk,rfl⟩:=List.mem_iff_getElem.mp hx;have:=hl k (by simpa using hk)
 simpa only [List.getD,List.getElem?_eq_getElem hk,Option.getD_some] using this
theorem zkL:(Tryz.prog.info? 3).map (fun i=>(i.zero,i.size,i.bytes))=some (some (.int .i64 0),1,8):=by kernel_rfl
theorem zfe {w:World} {a:Addr} {u:Value} (h:w.cell? a=some u) (o:Obj):(w.alloc o).cell? a=some u:=(((Below.refl _ w).alloc (Nat.le_refl _) o).cell (World.block_lt_of_cell? w a h)).trans h
theorem zi4 {w:World} {B:Nat} {v:Value} {l:List Int} {n:Int} (h:w.ownsRow B 3 1 v (l.length+1) (l.map (Value.int .i64)++[.int .i64 n])) :
  ∃g cap,v=.slice (some ⟨g,0,none⟩) (l.length+1) cap∧B≤g∧Hid (∀k,k<l.length+1→w.cell? ⟨g,k,none⟩=some (.int .i64 ((l++[n]).getD k 0)))∧Hid (∀k,w.frozen? ⟨g,k,none⟩=false):=by
 obtain ⟨hl,⟨_,h0⟩|⟨g,cap,cur,rfl,hg,hblk,h1,h2,hsz,htk⟩⟩:=h
 ·omega
 refine ⟨g,cap,rfl,hg,za fun k hk=>?_,za fun k=>by simp [World.frozen?,hblk]⟩;have e:w.cell? ⟨g,k,none⟩=cur[k]?:=by simp [World.cell?,hblk]
 have e2:cur.toList[k]?=(l.map (Value.int .i64)++[.int .i64 n])[k]?:=by rw [←htk,List.getElem?_take_of_lt (by omega)]
 have e3:(l.map (Value.int .i64)++[.int .i64 n])=(l++[n]).map (Value.int .i64):=by simp
 rw [e,←Array.getElem?_toList,e2,e3,List.getElem?_map,List.getElem?_eq_getElem (by simpa using hk)];simp [List.getD,List.getElem?_eq_getElem (show k<(l++[n]).length by simpa using hk)]
theorem zeg (n:Int) (is:Bool) (ao:Option Addr) (l:List Int) (w:World) (hm:l.length≤100) (hnone:ao=none→l.length=0)
  (holds:∀b,ao=some b→∀j u,(l.map (Value.int .i64))[j]?=some u→w.cell? (b.add j)=some u) :
  Calls Tryz.prog 239 #[.int .i64 n,.bool is,.slice ao l.length l.length] w fun e w'=>e=.returned (.tuple #[.int .i64 (vL n is l).1,.bool (vL n is l).2])∧Below w.heap.size w w':=by
 obtain ⟨i0,hi,hz0,hz1,hz2⟩:=info_parts zkL;have hn:=za hnone;have hh:=za holds;clear hnone holds;go_enter Tryz.func239,Tryz.ntmps239;go_wp2_with (at_builtin;refine wpList_append_grows _ rfl _ _ 22 rfl 3 i0 (.int .i64 0) 1 8 Tryz.underlying22 hi hz0 hz1 hz2 rfl (by decide) ao l.length l.length (l.map (Value.int .i64)) rfl (fun h=>⟨hn.out h,hn.out h⟩) (by simp) (fun b hb j u hj=>zfe (hh.out b hb j u hj) _) ⟨w.heap.size,0,none⟩ 1 1 [.int .i64 n] rfl rfl (cell_one_new _ _ _) (fun x hx=>by simp at hx;subst hx;rfl) (by omega) (by unfold maxLen;omega) (by omega) ?_;intro v' w1 hown hgrow;obtain ⟨g,cap,rfl,hgB,HC,HF⟩:=zi4 hown;have hB:=za (Below.grown (zg (Below.refl _ w) _) hgrow (by simp) (fun k hk=>by cases hk));clear hgrow hown)
 go_loop [15] (fun i=>∃k:Nat,k≤l.length+1∧i=.int .i64 k∧Hid ((0<k→is=true)∧∀j,j<k→inF ((l++[n]).getD j 0)=true)) (fun i=>l.length+1-(intOf i).toNat)
 case atStart=>exact ⟨0,Nat.zero_le _,rfl,za ⟨fun h=>absurd h (by decide),fun j h=>absurd h (by omega)⟩⟩
 case round =>
  obtain ⟨k,hk,rfl,HK⟩:=hrel
  by_cases hlt:k<l.length+1
  ·have hc:=HC.out k hlt
   have hf:=HF.out k;obtain ⟨x,hx⟩:∃x,x=(l++[n]).getD k 0:=⟨_,rfl⟩
   rw [←hx] at hc;have HX:=za hx;clear hx
   by_cases hi1:is=true
   ·subst hi1
    by_cases hin:inF x=true
    ·go_wp2_with (go_at_call 70;refine (jM _ _).mono ?_;rintro e w' ⟨rfl,rfl⟩)
     go_round
     case rel=>exact ⟨k+1,by omega,by go_num,za ⟨fun _=>by trivial,fun j hj=>by
      by_cases e:j=k
      ·subst e;rw [←HX.out];exact hin
      ·exact HK.out.2 j (by omega)⟩⟩
     case measure=>simp [intOf];omega
    ·have e:=zgR (is:=true) (Or.inr ⟨k,hlt,by rw [←HX.out];simpa using hin⟩)
     have hin':inF x=false:=by simpa using hin
     have E:=za e;clear hin e;go_wp2_with (go_at_call 70;refine (jM _ _).mono ?_;rintro e w' ⟨rfl,rfl⟩)
     go_ret2
     exact ⟨by rw [E.out];rfl,hB.out⟩
   ·have e:=zgR (n:=n) (l:=l) (is:=is) (Or.inl (by simpa using hi1))
    have hi2:is=false:=by simpa using hi1
    subst hi2;have E:=za e;clear e hi1;go_wp2_with fail
    go_ret2
    exact ⟨by rw [E.out];rfl,hB.out⟩
  ·have e:=ziN (n:=n) (l:=l) (is:=is) (HK.out.1 (by omega)) (fun j hj=>HK.out.2 j (by omega))
   have E:=za e;clear e;go_wp2
   go_ret2
   exact ⟨by rw [E.out];rfl,hB.out⟩
theorem XaX {P:Prop} (h:P:=by
 go_wp2_with (first | (go_at_call 70;refine (jM _ _).mono ?_;rintro e w' ⟨rfl,rfl⟩)|(go_at_call 239;refine (ziO _ _ _).mono ?_;rintro e w1 ⟨rfl,hb⟩;have hB:=za hb;clear hb))
 go_ret2
 exact ⟨by rw [E.out];rfl,hB.out⟩) : P := h
theorem XaJ {P:Prop} (h:P:=by
 go_wp2_with (go_at_call 70;refine (jM _ _).mono ?_;rintro e w' ⟨rfl,rfl⟩)
 go_ret2
 exact ⟨by rw [E.out];rfl,Below.refl _ _⟩) : P := h
def Vb (a b:Int):Int×Bool:=if (inF a&&inF b)=true then vL (a+b) true [] else (0,false)
def Y8 (a b:Int):Int×Bool:=if (inF a&&inF b)=true then vL (a-b) true [] else (0,false)
theorem ziO (n:Int) (is:Bool) (w:World):Calls Tryz.prog 239 #[n,is,.slice none 0 0] w fun e w'=>e=.returned (.tuple #[.int .i64 (vL n is []).1,.bool (vL n is []).2])∧Below w.heap.size w w' :=
 zeg n is none [] w (by decide) (fun _=>rfl) (fun b h=>by cases h)
theorem zlb (a b:Int) (w:World):Calls Tryz.prog 229 #[a,b] w fun e w'=>e=.returned (.tuple #[.int .i64 (Vb a b).1,.bool (Vb a b).2])∧Below w.heap.size w w':=by
 by_cases ha:inF a=true
 ·by_cases hb:inF b=true
  ·have ba:=Yh.mp ha
   have bb:=Yh.mp hb;have E:=za (show Vb a b=vL (a+b) true [] by unfold Vb;rw [ha,hb];rfl);go_enter Tryz.func229,Tryz.ntmps229;exact XaX
  ·have hb':inF b=false:=by simpa using hb
   have E:=za (show Vb a b=(0,false) by unfold Vb;rw [ha,hb'];rfl);clear hb;go_enter Tryz.func229,Tryz.ntmps229;exact XaJ
 ·have ha':inF a=false:=by simpa using ha
  have E:=za (show Vb a b=(0,false) by unfold Vb;rw [ha'];rfl);clear ha;go_enter Tryz.func229,Tryz.ntmps229;exact XaJ
theorem zk8 (a b:Int) (w:World):Calls Tryz.prog 238 #[a,b] w fun e w'=>e=.returned (.tuple #[.int .i64 (Y8 a b).1,.bool (Y8 a b).2])∧Below w.heap.size w w':=by
 by_cases ha:inF a=true
 ·by_cases hb:inF b=true
  ·have ba:=Yh.mp ha
   have bb:=Yh.mp hb;have E:=za (show Y8 a b=vL (a-b) true [] by unfold Y8;rw [ha,hb];rfl);go_enter Tryz.func238,Tryz.ntmps238;exact XaX
  ·have hb':inF b=false:=by simpa using hb
   have E:=za (show Y8 a b=(0,false) by unfold Y8;rw [ha,hb'];rfl);clear hb;go_enter Tryz.func238,Tryz.ntmps238;exact XaJ
 ·have ha':inF a=false:=by simpa using ha
  have E:=za (show Y8 a b=(0,false) by unfold Y8;rw [ha'];rfl);clear ha;go_enter Tryz.func238,Tryz.ntmps238;exact XaJ
end Go.Proofs.YtcoiklclbljjeaaGreatDoor.L
