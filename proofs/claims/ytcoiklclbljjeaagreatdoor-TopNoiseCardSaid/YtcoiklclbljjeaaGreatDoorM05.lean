/- Lemmas of the card's proof. -/
import Derived.OrdersHeld
import Derived.Test.YtcoiklclbljjeaaGreatDoorM04
set_option linter.unusedVariables false
set_option linter.unusedSimpArgs false
set_option maxRecDepth 100000
set_option maxHeartbeats 16000000
namespace Go.Proofs.YtcoiklclbljjeaaGreatDoor.L
open Go.RowKit
theorem Xaz {P:Prop} (h:P:=by
 unfold Oper.wp at *;generalize (execOp a.eval o).run P w=r at *;cases r with
 | ok n w' =>
  cases n<;>simp only [Oper.upon] at hh ⊢
  case value=>exact h _ _ hh
  case skip=>exact h _ _ hh
  case defer=>exact h _ _ hh
  case enter =>
   refine hh.mono fun e w'' he=>?_;cases e with
   | returned v=>exact h _ _ he
   | panicked c=>exact he
   | outgrown=>exact he
  case row=>exact hh.mono fun v w'' he=>h _ _ he
 | halt x w'=>cases x<;>simp only [Oper.upon] at hh ⊢;exact hh) : P := h
section
structure zC (w:World) (G:List Nat) (W:World):Prop where
 size:w.heap.size≤W.heap.size
 block:∀k,k<w.heap.size→k∉G→W.heap[k]?=w.heap[k]?
def But (w:World) (G:List Nat):Type:={W:World // zC w G W}
def But.w {w:World} {G:List Nat} (x:But w G):World:=x.1
theorem But.p {w:World} {G:List Nat} (x:But w G):zC w G x.w:=x.2
theorem zC.refl (w:World) (G:List Nat):zC w G w:=⟨Nat.le_refl _,fun _ _ _=>rfl⟩
instance {w : World} {G : List Nat} : Nonempty (But w G) := ⟨⟨w, zC.refl w G⟩⟩
theorem But.cell {w:World} {G:List Nat} {b i:Nat} {v:Value} (h:w.cell? ⟨b,i,none⟩=some v) (hb:b∉G) (x:But w G):x.w.cell? ⟨b,i,none⟩=some v :=
 (World.cell?_of_block (x.p.block b (World.block_lt_of_cell? w ⟨b,i,none⟩ h) hb)).trans h
theorem zC.call {w W W':World} {G:List Nat} (h:zC w G W) (k:Below W.heap.size W W'):zC w G W' :=
 ⟨Nat.le_trans h.size k.size,fun i hi hg=>(k.block i (Nat.lt_of_lt_of_le hi h.size)).trans (h.block i hi hg)⟩
theorem zC.alloc {w W:World} {G:List Nat} (h:zC w G W) (o:Obj):zC w G (W.alloc o):=h.call ((Below.refl _ _).alloc (Nat.le_refl _) o)
theorem zC.drew {w W:World} {G:List Nat} (h:zC w G W):zC w G W.drew:=⟨h.size,h.block⟩
theorem zC.set {w W:World} {G:List Nat} (h:zC w G W) {g:Nat} (hg:g∈G∨w.heap.size≤g) (i:Nat) (u:Value):zC w G (W.setCell ⟨g,i,none⟩ u) :=
 ⟨by have:=h.size;simpa [World.setCell] using this,fun k hk hkg=>(Below.heap_setCell W ⟨g,i,none⟩ u k (by
  rintro rfl;rcases hg with hg|hg
  ·exact hkg hg
  ·exact absurd hk (Nat.not_lt.mpr hg))).trans (h.block k hk hkg)⟩
def Z7 (o:Oper):Bool :=
 match o.op with
 | .move _|.assign _|.pick _ _ _|.load _ _|.fieldAddr _ _ _|.indexAddr _ _ _|.binOp _ _ _ _ _|.unOp _ _ _|.extract _ _|.build _ _|.convert _ _ _|.slice _ _ _ _ _|.field _ _ _|.index _ _ _|.makeInterface _ _|.nilCheck _=>true
 | .call c=>(match c.callee with | .builtin .len=>true|.builtin .min=>true|.builtin .max=>true|_=>false)
 | _=>false
theorem QS {P:Program} {o:Oper} {r:Operand→Value} {w w':World} {n:Next} (h:Z7 o=true) (hr:(execOp r o).run P w=.ok n w'):∃u,n=.value u:=by
 have key:∀(s:Sem Value),(do let x ←s;pure (Next.value x):Sem Next).run P w=.ok n w'→∃u,n=.value u:=by
  intro s hs;simp only [Sem.run_bind] at hs;cases hq:s.run P w with
  | ok a w1=>rw [hq] at hs;simp only [Result.andThen_ok,Sem.run_pure] at hs;injection hs with h1 h2;exact ⟨a,h1.symm⟩
  | halt x w1=>rw [hq] at hs;simp [Result.andThen] at hs
 unfold Z7 at h;unfold execOp at hr
 split at h
 all_goals
  rename_i heq
  try simp only [heq] at hr
 case h_1=>simp only [Sem.run_pure] at hr;injection hr with h1 h2;exact ⟨_,h1.symm⟩
 case h_2=>simp only [Sem.run_pure] at hr;injection hr with h1 h2;exact ⟨_,h1.symm⟩
 case h_16 =>
  have key3:∀ {α:Type} (s:Sem α) (f:α→Sem Next),(∀a w n w', (f a).run P w=.ok n w'→∃u,n=.value u)→∀w n w', (s >>= f).run P w=.ok n w'→∃u,n=.value u:=by
   intro α s f hf w n w' hs;rw [Sem.run_bind] at hs;cases hq:s.run P w with
   | ok a w1=>rw [hq] at hs;exact hf _ _ _ _ hs
   | halt x w1=>rw [hq] at hs;simp [Result.andThen] at hs
  have pp:∀(v:Value) (w:World) (n:Next) (w':World),(pure (Next.value v):Sem Next).run P w=.ok n w'→∃u,n=.value u:=by
   intro v w n w' h;simp only [Sem.run_pure] at h;injection h with h1 h2;exact ⟨_,h1.symm⟩
  have rp:∀(w:World) (n:Next) (w':World),(runtimePanic RuntimeError.nilDeref:Sem Next).run P w=.ok n w'→∃u,n=.value u:=by
   intro w n w' h;simp [runtimePanic,goPanic,go_sem] at h
  split at hr
  ·exact rp _ _ _ hr
  ·exact rp _ _ _ hr
  ·exact rp _ _ _ hr
  ·split at hr
   ·exact rp _ _ _ hr
   ·refine key3 _ _ (fun a w n w' h=>?_) _ _ _ hr
    refine key3 _ _ (fun b w n w' h=>?_) _ _ _ h
    split at h
    ·exact key3 _ _ (fun c w n w' h=>pp _ _ _ _ h) _ _ _ h
    ·exact pp _ _ _ _ h
   ·exact pp _ _ _ _ hr
  ·exact pp _ _ _ _ hr
 case h_17 =>
  rename_i c _
  unfold resolve at hr
  split at h
  all_goals
   rename_i hcal
   try simp only [hcal,Sem.run_bind,Sem.run_pure,Result.andThen_ok,invoke,builtin] at hr
  all_goals first | exact key _ (by simpa only [Sem.run_bind,Sem.run_pure] using hr)|cases h
 case h_3 =>
  simp only [Sem.run_bind] at hr
  revert hr
  generalize (Sem.run P _ w)=q;cases q with
  | ok a w1=>intro hr;simp only [Result.andThen_ok,Sem.run_pure] at hr;injection hr with h1 h2;exact ⟨_,h1.symm⟩
  | halt x w1=>intro hr;simp [Result.andThen] at hr
 all_goals first | exact key _ hr|cases h
section
variable {P:Program} {ops:Array Oper} {S:World→Prop} {Q:Exit→Act→World→Prop}
theorem Oper.wp_mono' {o:Oper} {a:Act} {w:World} {K K':Act→World→Prop} (h:∀a w,K a w→K' a w) (hh:o.wp P a w K Q):o.wp P a w K' Q:=by
 exact Xaz
def vz (P:Program) (ops:Array Oper) (S:World→Prop) (Q:Exit→Act→World→Prop):List Oper→Act→World→Prop
 | [],a,w=>Q .normal a w
 | o::rest,a,w=>if Region.wanted o (yielded ops a.tmps)=true then o.wp P a w (fun a' w'=>(rest≠[]→S w')∧vz P ops S Q rest a' w') Q else vz P ops S Q rest (a.put o.dst undef) w
theorem zp {o:Oper} {rest:List Oper} {a:Act} {w:World} (hg:o.guard=none)
  (h:∀K:Act→World→Prop,(∀a' w', S w'→vz P ops S Q rest a' w'→K a' w')→o.wp P a w K Q):vz P ops S Q (o::rest) a w:=by
 have hw:Region.wanted o (yielded ops a.tmps)=true:=by simp [Region.wanted,hg]
 show if _ then _ else _;rw [if_pos hw];exact h _ fun a' w' h1 h2=>⟨fun _=>h1,h2⟩
theorem zZ {o:Oper} {a:Act} {w:World} (hg:o.guard=none)
  (h:∀K:Act→World→Prop,(∀a' w', Q .normal a' w'→K a' w')→o.wp P a w K Q):vz P ops S Q [o] a w:=by
 have hw:Region.wanted o (yielded ops a.tmps)=true:=by simp [Region.wanted,hg]
 show if _ then _ else _;rw [if_pos hw];exact h _ fun a' w' h2=>⟨fun h=>absurd rfl h,h2⟩
def zda (ops:Array Oper):List Nat→Array Bool→Bool
 | [],b=>(Region.ready .any ops b).isEmpty
 | t::ts,b=>decide (Region.ready .any ops b=[t])&&zda ops ts (b.setIfInBounds t true)
def zdN (ops:Array Oper) (ts:List Nat):List Nat→Array Bool→Bool
 | [],b=>zda ops ts b
 | i::is,b=>(Region.ready .any ops b).contains i&&Region.free .any ops b i&&(ops[i]?.map Z7).getD false&&zdN ops ts is (b.setIfInBounds i true)
def zjs (ops:Array Oper) (rs ts:List Nat):Bool:=Region.noSelect ops&&decide (rs.length+ts.length=ops.size)&&zdN ops ts rs (Array.replicate ops.size false)
def zdo (ops:Array Oper) (z:Nat):Bool:=(List.range ops.size).all fun k=>k==z || Region.waitsFor .any ops z k
theorem zgh {z:Nat} (h:zdo ops z=true) {b:Array Bool} (hz:z∈Region.ready .any ops b) {i:Nat} (hi:i∈Region.ready .any ops b):i=z:=by
 obtain ⟨hun,oi,hoi,_⟩:=mem_ready.1 hi;obtain ⟨_,oz,hoz,hall⟩:=mem_ready.1 hz;have hlt:i<ops.size:=(Array.getElem?_eq_some_iff.1 hoi).1;have k:=List.all_eq_true.1 h i (List.mem_range.2 hlt);simp only [Bool.or_eq_true,beq_iff_eq] at k;rcases k with k|k
 ·exact k
 ·obtain ⟨o', ho', e,he,hb,hon⟩:=Region.waitsFor_spec k
  have:o'=oz:=Option.some.inj (ho'.symm.trans hoz);subst this;have q:=hall e he hb;rw [hon,getD_both hun] at q;cases q
def zbh (P:Program) (ops:Array Oper) (Q:Exit→Act→World→Prop) (S:World→Prop) (z:Nat):Nat→Array Bool→Act→World→Prop
 | 0,b,a,w=>Region.ready .any ops b=[]∧Q .normal a w
 | f+1,b,a,w=>(Region.ready .any ops b=[]→Q .normal a w) ∧
  ∀i∈Region.ready .any ops b,wpOp P ops Q i (fun a' w'=>(i≠z→S w')∧zbh P ops Q S z f (b.setIfInBounds i true) a' w') a w
theorem J5 {z:Nat}:∀(f:Nat) (b:Array Bool) (a:Act) (w:World),zbh P ops Q S z f b a w→wpAny P .any ops Q f b a w
 | 0,_,_,_,h=>h
 | f+1,_,_,_,h=>⟨h.1,fun i hi=>wpOp_mono (fun a' w' h'=>J5 f _ a' w' h'.2) (h.2 i hi)⟩
theorem Ve {z i:Nat} {oi:Oper} {v:Value} (hz:zdo ops z=true) (hi:ops[i]?=some oi) (hsel:∀(j:Nat) (o:Oper) cs b,ops[j]?=some o→o.op≠.select cs b) (hQ:∀c a w,Q (.panic c) (a.put oi.dst v) w→Q (.panic c) a w) (f:Nat) :
  ∀(b:Array Bool) (a:Act) (w:World),
   (∀j oj,ops[j]?=some oj→j≠i→b.getD j true=false→(∀e∈oj.after,Region.binds .any e=true→e.on≠i)→oi.apart ops oj=true) →
   i∈Region.ready .any ops b→YieldsIf P ops S oi v a→S w→zbh P ops Q S z f (b.setIfInBounds i true) (a.put oi.dst v) w→zbh P ops Q S z (f+1) b a w:=by
 induction f with
 | zero =>
  intro b a w _ hr hy hS H;refine ⟨fun h=>(by rw [h] at hr;cases hr),fun j hj=>?_⟩
  by_cases hji:j=i
  ·subst hji;exact hy.wpOp hi hS ⟨fun _=>hS,H⟩
  ·have k:=ready_mono hj hji
   rw [H.1] at k;cases k
 | succ f ih =>
  intro b a w hfree hr hy hS H;refine ⟨fun h=>(by rw [h] at hr;cases hr),fun j hj=>?_⟩
  by_cases hji:j=i
  ·subst hji;exact hy.wpOp hi hS ⟨fun _=>hS,H⟩
  ·obtain ⟨hjun,oj,hoj,hall⟩:=mem_ready.1 hj
   have hjz:j≠z:=fun e=>hji (by subst e;exact (zgh hz hj hr).symm)
   have hnot:∀e∈oj.after,Region.binds .any e=true→e.on≠i:=by
    exact XaV
   refine wpOp_mono (fun a' w' h3=>?_) (wpOp_putIf hoj (hfree j oj hoj hji hjun hnot) (fun cs b=>hsel i oi cs b hi) (fun cs b=>hsel j oj cs b hoj) hQ hy (H.2 j (ready_mono hj hji)));have hS':S w':=h3.2.1 hjz;refine ⟨fun _=>hS', ih (b.setIfInBounds j true) a' w' (fun k ok hk hki hun hno=>?_) (ready_mono hr (Ne.symm hji)) h3.1 hS' ?_⟩
   ·refine hfree k ok hk hki ?_ hno
    by_cases hjk:j=k
    ·subst hjk;exact hjun
    ·rw [getD_set_ne true hjk] at hun;exact hun
   ·rw [Array.setIfInBounds_comm _ _ hji]
    exact h3.2.2
theorem zfF {z:Nat}:∀(ts:List Nat) (b:Array Bool) (a:Act) (w:World),ts.getLast?=some z→ts.Nodup→zda ops ts b=true→S w→vz P ops S Q (ts.filterMap (ops[·]?)) a w→zbh P ops Q S z ts.length b a w
 | [],b,a,w,hl,_,hB,_,h=>by cases hl
 | t::ts,b,a,w,hl,hnd,hB,hS,h=>by
  simp only [zda,Bool.and_eq_true,decide_eq_true_eq] at hB;refine ⟨fun h0=>(by rw [hB.1] at h0;cases h0),fun i hi=>?_⟩;rw [hB.1] at hi;obtain rfl:i=t:=by simpa using hi
  unfold wpOp;cases ho:ops[i]? with
  | none =>
   have:i∈Region.ready .any ops b:=by rw [hB.1];simp
   obtain ⟨_,o,ho', _⟩:=mem_ready.1 this;rw [ho] at ho';cases ho'
  | some o =>
   rw [List.filterMap_cons,ho] at h;simp only;have h':if Region.wanted o (yielded ops a.tmps)=true then o.wp P a w (fun a' w'=>(ts.filterMap (ops[·]?)≠[]→S w')∧vz P ops S Q (ts.filterMap (ops[·]?)) a' w') Q else vz P ops S Q (ts.filterMap (ops[·]?)) (a.put o.dst undef) w:=h
   have key:∀a' w', (ts.filterMap (ops[·]?)≠[]→S w')→vz P ops S Q (ts.filterMap (ops[·]?)) a' w'→(i≠z→S w')∧zbh P ops Q S z ts.length (b.setIfInBounds i true) a' w':=by
    intro a' w' k1 k2;cases ts with
    | nil =>
     have hz:i=z:=by simpa using hl
     exact ⟨fun hne=>absurd hz hne,by simpa [zda] using hB.2,k2⟩
    | cons t' ts' =>
     have hne:(t'::ts').filterMap (ops[·]?)≠[]:=by
      have h2:=hB.2;simp only [zda,Bool.and_eq_true,decide_eq_true_eq] at h2;have:t'∈Region.ready .any ops (b.setIfInBounds i true):=by rw [h2.1];simp
      obtain ⟨_,o', ho', _⟩:=mem_ready.1 this;rw [List.filterMap_cons,ho'];simp
     exact ⟨fun _=>k1 hne,zfF (t'::ts') _ a' w' (by simpa using hl) (List.nodup_cons.1 hnd).2 hB.2 (k1 hne) k2⟩
   split at h'
   ·rename_i hw
    rw [if_pos hw];exact .inl (Oper.wp_mono' (fun a' w' ⟨k1,k2⟩=>key a' w' k1 k2) h')
   ·rename_i hw
    rw [if_neg hw];exact key _ w (fun _=>hS) h'
theorem zaB {z:Nat} {ts:List Nat} (hz:zdo ops z=true) (hl:ts.getLast?=some z) (hnd:ts.Nodup) (hsel:Region.noSelect ops=true) (hQ:∀c a d v w,Q (.panic c) (a.put d v) w→Q (.panic c) a w):∀(rs:List Nat) (b:Array Bool) (a:Act) (w:World),zdN ops ts rs b=true→S w →
  wpQuiet P ops S (fun a'=>vz P ops S Q (ts.filterMap (ops[·]?)) a' w) (rs.filterMap (ops[·]?)) a→zbh P ops Q S z (rs.length+ts.length) b a w
 | [],b,a,w,hB,hS,h=>by rw [List.length_nil,Nat.zero_add];exact zfF ts b a w hl hnd hB hS h
 | i::is,b,a,w,hB,hS,h=>by
  simp only [zdN,Bool.and_eq_true] at hB;obtain ⟨⟨⟨hr,hf⟩,hk⟩,hB'⟩:=hB;cases ho:ops[i]? with
  | none=>rw [ho] at hk;cases hk
  | some o =>
   rw [ho] at hk;have hk':Z7 o=true:=by simpa using hk
   rw [List.filterMap_cons,ho] at h;have e:(i::is).length+ts.length=(is.length+ts.length)+1:=by rw [List.length_cons];omega
   rw [e];have h':if Region.wanted o (yielded ops a.tmps)=true then o.quiet P a S (wpQuiet P ops S (fun a'=>vz P ops S Q (ts.filterMap (ops[·]?)) a' w) (is.filterMap (ops[·]?))) else wpQuiet P ops S (fun a'=>vz P ops S Q (ts.filterMap (ops[·]?)) a' w) (is.filterMap (ops[·]?)) (a.put o.dst undef):=h
   split at h'
   ·rename_i hw
    obtain ⟨v,h1,h2⟩:=h';refine Ve hz ho (Region.noSelect_spec hsel) (fun c a w=>hQ c a _ _ w) _ b a w (Region.free_spec ho hf) (by simpa using hr) (.inl ⟨hw,fun W hW=>?_⟩) hS (zaB hz hl hnd hsel hQ is _ _ w hB' hS h2);have q:=h1 W hW;unfold Oper.quietAt at q;cases hrun:(execOp a.eval o).run P W with
    | halt x w1=>rw [hrun] at q;cases q
    | ok n w1 =>
     obtain ⟨u,rfl⟩:=QS hk' hrun;rw [hrun] at q;obtain ⟨rfl,rfl⟩:=q;rfl
   ·rename_i hw
    exact Ve hz ho (Region.noSelect_spec hsel) (fun c a w=>hQ c a _ _ w) _ b a w (Region.free_spec ho hf) (by simpa using hr) (.inr ⟨by simpa using hw,rfl⟩) hS (zaB hz hl hnd hsel hQ is _ _ w hB' hS h')
inductive VU (l:List Oper):List Nat→List Oper→Prop
 | nil:VU l [] []
 | cons {i:Nat} {is:List Nat} {o:Oper} {os:List Oper} (h:l[i]?=some o) (t:VU l is os):VU l (i::is) (o::os)
theorem VU.eq {l:List Oper} {is:List Nat} {os:List Oper} (h:VU l is os):is.filterMap (l.toArray[·]?)=os:=by
 induction h with
 | nil=>rfl
 | cons h t ih=>rw [List.filterMap_cons,List.getElem?_toArray,h];exact congrArg _ ih
def zci (ops:Array Oper) (rs ts:List Nat):Bool:=zjs ops rs ts&&zdo ops (ts.getLast?.getD 0)&&decide ts.Nodup&&ts.getLast?.isSome
theorem jH {a:Act} {w:World} {l lr lt:List Oper} (G:List Nat) (rs ts:List Nat) (hr:VU l rs lr) (ht:VU l ts lt) (hB:zci l.toArray rs ts=true) (hQ:∀c a d v w,Q (.panic c) (a.put d v) w→Q (.panic c) a w)
  (h:wpQuiet P l.toArray (fun w'=>∃x:But w G,w'=x.w) (fun a'=>vz P l.toArray (fun w'=>∃x:But w G,w'=x.w) Q lt a' w.drew) lr a):wpAny P .any l.toArray Q l.toArray.size (Array.replicate l.toArray.size false) a w.drew:=by
 simp only [zci,zjs,Bool.and_eq_true,decide_eq_true_eq] at hB;obtain ⟨⟨⟨⟨⟨hsel,hl⟩,hk⟩,hz⟩,hnd⟩,hlast⟩:=hB;obtain ⟨z,hze⟩:=Option.isSome_iff_exists.1 hlast;rw [hze] at hz;have:=zaB (P:=P) (Q:=Q) (S:=fun w'=>∃x:But w G,w'=x.w) (z:=z) (ts:=ts) hz hze hnd hsel hQ rs _ a w.drew hk ⟨⟨w.drew,(zC.refl w G).drew⟩,rfl⟩ (by rw [hr.eq,ht.eq];exact h);rw [hl] at this;exact J5 _ _ _ _ this
theorem je {id:Nat} {a:Act} {w:World} {l lr lt:List Oper} (G:List Nat) (rs ts:List Nat) (hr:VU l rs lr) (ht:VU l ts lt) (hm:P.follows .mixedOrders=true) (hB:zci l.toArray rs ts=true) (hQ:∀c a d v w,Q (.panic c) (a.put d v) w→Q (.panic c) a w)
  (h:wpQuiet P l.toArray (fun w'=>∃x:But w G,w'=x.w) (fun a'=>vz P l.toArray (fun w'=>∃x:But w G,w'=x.w) Q lt a' w.drew) lr a):(Code.region id l.toArray true).wp P Q a w :=
 wp_region_any hm (jH G rs ts hr ht hB hQ h)
theorem zI {w W:World} {G:List Nat} (h:zC w G W):∃x:But w G,W=x.w:=⟨⟨W,h⟩,rfl⟩
end
end
end Go.Proofs.YtcoiklclbljjeaaGreatDoor.L
