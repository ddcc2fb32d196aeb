/- Lemmas of the card's proof. -/
import Derived.Test.YtcoiklclbljjeaaGreatDoorM17
set_option linter.unusedVariables false
set_option linter.unusedSimpArgs false
set_option maxRecDepth 100000
set_option maxHeartbeats 16000000
namespace Go.Proofs.YtcoiklclbljjeaaGreatDoor.L
open Go.RowKit
theorem Xbw {P:Prop} (h:P:=by
 exact ⟨fun ⟨x,⟨h1,h2⟩,h3⟩=>⟨x,h1,h2,h3⟩,fun ⟨x,h1,h2,h3⟩=>⟨x,⟨h1,h2⟩,h3⟩⟩) : P := h
theorem XaS {P:Prop} (h:P:=by
 rw [jG];simp only [zF.open_,if_true,List.mem_cons,zF.idx];constructor
 ·intro hk
  refine ⟨.inr hk,fun e=>?_⟩;obtain ⟨y,hy,_,hy3⟩:=j8.1 hk;exact hni (List.mem_map.2 ⟨y,hy,by rw [hy3,e];rfl⟩)
 ·rintro ⟨h|h,hne⟩
  ·exact absurd h hne
  ·exact h) : P := h
section
inductive zF
 | rd (i:Nat) (o:Oper)
 | tl (i:Nat) (o:Oper)
 | fl (i:Nat) (o:Oper) (t:TypeId) (zs:Array Value) (st:Option Nat)
def zF.idx:zF→Nat
 | .rd i _=>i
 | .tl i _=>i
 | .fl i _ _ _ _=>i
def zF.op:zF→Oper
 | .rd _ o=>o
 | .tl _ o=>o
 | .fl _ o _ _ _=>o
def zF.isFl:zF→Bool
 | .fl _ _ _ _ _=>true
 | _=>false
def zF.open_:zF→Bool
 | .fl _ _ _ _ (some _)=>false
 | _=>true
def vI:List zF→Act→Act
 | [],a=>a
 | .fl _ o _ _ (some b)::r,a=>vI r (a.put o.dst (.pointer (some ⟨b,0,none⟩)))
 | _::r,a=>vI r a
def yE (r:List zF):List Nat:=(r.filter zF.open_).map zF.idx
def ZK (r:List zF):List Nat:=(r.filter fun x=>!x.isFl).map zF.idx
def js (n:Nat) (U:List Nat):Array Bool:=(Array.range n).map fun i=>!U.contains i
section
variable {P:Program} {ops:Array Oper} {Q:Exit→Act→World→Prop}
def Yp (ops:Array Oper) (x:zF) (r:List zF):Bool :=
 (r.all fun y=>!y.isFl || y.op.apart ops x.op) &&
 (match x with
  | .rd i o=>(Region.ready .any ops (js ops.size ((x::r).map zF.idx))).contains i&&Region.free .any ops (js ops.size ((x::r).map zF.idx)) i&&Z7 o&&(r.all fun y=>!y.isFl || o.apart ops y.op)&&!r.isEmpty
  | .tl i _=>decide (Region.ready .any ops (js ops.size (ZK (x::r)))=[i])
  | .fl i o _ _ _=>(Region.ready .any ops (js ops.size (i::ZK r))).all (·==i)&&o.after.all (fun e=>!Region.binds .any e)&&o.guard.isNone)
def chk (ops:Array Oper):List zF→Bool
 | []=>(Region.ready .any ops (js ops.size [])).isEmpty
 | x::r=>Yp ops x r&&chk ops r
inductive vy (P:Program) (l:List Oper):List zF→Prop
 | nil:vy P l []
 | rd {i:Nat} {o:Oper} {r:List zF} (h:l[i]?=some o) (t:vy P l r):vy P l (.rd i o::r)
 | tl {i:Nat} {o:Oper} {r:List zF} (h:l[i]?=some o) (t:vy P l r):vy P l (.tl i o::r)
 | fl {i:Nat} {o:Oper} {r:List zF} {e:TypeId} {zs:Array Value} {st:Option Nat} (h:l[i]?=some o) (ha:o.op=.alloc e) (hz:∀w:World,(Instr.alloc e true (.tuple #[])).run P w=.ok (.pointer (some ⟨w.heap.size,0,none⟩)) (w.alloc (.cells zs e))) (t:vy P l r):vy P l (.fl i o e zs st::r)
def qp (P:Program) (ops:Array Oper) (w0:World) (G:List Nat) (Q:Exit→Act→World→Prop):List Nat→List zF→Act→World→Prop
 | _,[],a,w=>Q .normal a w
 | L,.rd _ o::r,a,w=>if Region.wanted o (yielded ops a.tmps)=true then o.quiet P a (fun w'=>∃x:But w0 G,w'=x.w) (fun a'=>qp P ops w0 G Q L r a' w) else qp P ops w0 G Q L r (a.put o.dst undef) w
 | L,.tl _ o::r,a,w=>∀w1,Below w.heap.size w w1→if Region.wanted o (yielded ops a.tmps)=true then o.wp P a w1 (fun a' w'=>(r≠[]→zC w1 (L++G) w')∧∃D:List Nat,(∀d,d∈D→w1.heap.size≤d∧d<w'.heap.size)∧qp P ops w0 G Q (D++L) r a' w') Q else qp P ops w0 G Q L r (a.put o.dst undef) w1
 | L,.fl _ o e zs _::r,a,w=>∀w1 b,Below w.heap.size w w1→At w1 b e zs→w0.heap.size≤b→b∉L→qp P ops w0 G Q (b::L) r (a.put o.dst (.pointer (some ⟨b,0,none⟩))) w1
theorem YN {w0:World} {G L:List Nat} {i:Nat} {o:Oper} {r:List zF} {a:Act} {w:World}:qp P ops w0 G Q L (.rd i o::r) a w=(if Region.wanted o (yielded ops a.tmps)=true then o.quiet P a (fun w'=>∃x:But w0 G,w'=x.w) (fun a'=>qp P ops w0 G Q L r a' w) else qp P ops w0 G Q L r (a.put o.dst undef) w):=rfl
theorem vk {w0:World} {G L:List Nat} {i:Nat} {o:Oper} {r:List zF} {a:Act} {w:World}:qp P ops w0 G Q L (.tl i o::r) a w=(∀w1,Below w.heap.size w w1→if Region.wanted o (yielded ops a.tmps)=true then o.wp P a w1 (fun a' w'=>(r≠[]→zC w1 (L++G) w')∧∃D:List Nat,(∀d,d∈D→w1.heap.size≤d∧d<w'.heap.size)∧qp P ops w0 G Q (D++L) r a' w') Q else qp P ops w0 G Q L r (a.put o.dst undef) w1):=rfl
theorem YO {w0:World} {G L:List Nat} {i:Nat} {o:Oper} {e:TypeId} {zs:Array Value} {st:Option Nat} {r:List zF} {a:Act} {w:World}:qp P ops w0 G Q L (.fl i o e zs st::r) a w=(∀w1 b,Below w.heap.size w w1→At w1 b e zs→w0.heap.size≤b→b∉L→qp P ops w0 G Q (b::L) r (a.put o.dst (.pointer (some ⟨b,0,none⟩))) w1):=rfl
theorem zht {j:Nat} {d:Option Tmp} {oj:Oper} {v:Value} (hj:ops[j]?=some oj) (h1:∀x,d=some x→x∉oj.looksAt ops) (h2:∀x,d=some x→oj.dst≠some x) (hsj:∀cs b,oj.op≠.select cs b)
  (hQ:∀c a w,Q (.panic c) a w→Q (.panic c) (a.put d v) w) {K:Act→World→Prop} {a:Act} {w:World} (h:wpOp P ops Q j K a w) :
  wpOp P ops Q j (fun a' w'=>∃a'', a'=a''.put d v∧K a'' w') (a.put d v) w:=by
 unfold wpOp at *;simp only [hj] at *;rw [wanted_put oj a d v h1]
 split
 ·rename_i hw
  simp only [hw,if_true] at h;rcases h with h|⟨hasks,hlets⟩
  case inr=>exact .inr ⟨by unfold Oper.asks at *;rw [execOp_put oj hsj a d v h1];exact hasks,hlets⟩
  refine .inl ?_;unfold Oper.wp at *;rw [execOp_put oj hsj a d v h1];generalize (execOp a.eval oj).run P w=r at *;cases r with
  | ok n w' =>
   cases n<;>simp only [Oper.upon] at h ⊢
   case value u=>exact ⟨a.put oj.dst u,Act.put_comm a v u h2,h⟩
   case skip=>exact ⟨a.put oj.dst undef,Act.put_comm a v undef h2,h⟩
   case defer dd=>exact ⟨_,by rw [Act.put_defers,Act.put_comm _ v undef h2],h⟩
   case enter f args =>
    refine Calls.mono h fun e w'' he=>?_;cases e with
    | returned u=>exact ⟨a.put oj.dst u,Act.put_comm a v u h2,he⟩
    | panicked c=>exact hQ _ _ _ he
    | outgrown=>exact he
   case row row args=>exact Rows.mono h fun u w'' he=>⟨a.put oj.dst u,Act.put_comm a v u h2,he⟩
  | halt x w' =>
   cases x<;>simp only [Oper.upon] at h ⊢
   case panic u=>exact hQ _ _ _ h
 ·rename_i hw
  simp only [hw] at h;exact ⟨a.put oj.dst undef,Act.put_comm a v undef h2,h⟩
def zaF (ops:Array Oper) (r:List zF) (oj:Oper):Prop:=∀y,y∈r→y.isFl=true→y.op.apart ops oj=true
theorem zaF.tail {y:zF} {r:List zF} {oj:Oper} (h:zaF ops (y::r) oj):zaF ops r oj:=fun x hx=>h x (List.mem_cons_of_mem _ hx)
theorem Zz {j:Nat} {oj:Oper} (hj:ops[j]?=some oj) (hsj:∀cs b,oj.op≠.select cs b) (hQ:∀c a d v w,Q (.panic c) a w→Q (.panic c) (a.put d v) w):∀(r:List zF) (K:Act→World→Prop) (a:Act) (w:World),zaF ops r oj→wpOp P ops Q j K a w →
  wpOp P ops Q j (fun a' w'=>∃a'', a'=vI r a''∧K a'' w') (vI r a) w
 | [],K,a,w,_,h=>wpOp_mono (fun a' w' h'=>⟨a', rfl,h'⟩) h
 | .rd i o::r,K,a,w,ha,h=>Zz hj hsj hQ r K a w ha.tail h
 | .tl i o::r,K,a,w,ha,h=>Zz hj hsj hQ r K a w ha.tail h
 | .fl i o e zs none::r,K,a,w,ha,h=>Zz hj hsj hQ r K a w ha.tail h
 | .fl i o e zs (some b)::r,K,a,w,ha,h=>by
  obtain ⟨h1,h2,_⟩:=Oper.apart_spec (ha (.fl i o e zs (some b)) (List.mem_cons_self) rfl);have q:=Zz hj hsj hQ r _ _ w ha.tail (zht (v:=.pointer (some ⟨b,0,none⟩)) hj h1 h2 hsj (fun c a w h=>hQ c a _ _ w h) h);exact wpOp_mono (fun a' w' ⟨a3,e3,a4,e4,h4⟩=>⟨a4,by rw [e3,e4];rfl,h4⟩) q
def yU:zF→zF
 | .fl i o e zs _=>.fl i o e zs none
 | x=>x
def jJ (j b:Nat):zF→zF
 | .fl i o e zs none=>if i=j then .fl i o e zs (some b) else .fl i o e zs none
 | x=>x
theorem Yb (x:zF):(yU x).idx=x.idx:=by cases x<;>rfl
theorem ziV (x:zF):(yU x).op=x.op:=by cases x<;>rfl
theorem zbP (x:zF):(yU x).isFl=x.isFl:=by cases x<;>rfl
theorem zaM (j b:Nat) (x:zF):yU (jJ j b x)=yU x:=by
 unfold jJ;split
 ·split<;>rfl
 ·rfl
theorem zhA (j b:Nat) (x:zF):(jJ j b x).idx=x.idx:=by rw [←Yb,zaM,Yb]
theorem zcR (r:List zF):(r.map yU).map zF.idx=r.map zF.idx:=by
 rw [List.map_map];exact List.map_congr_left fun x _=>Yb x
theorem zaR (r:List zF):ZK (r.map yU)=ZK r:=by
 unfold ZK;rw [List.filter_map,List.map_map];have:((fun x:zF=>!x.isFl) ∘ yU)=fun x=>!x.isFl:=funext fun x=>by simp [zbP]
 rw [this];exact List.map_congr_left fun x _=>Yb x
theorem zac {j b:Nat} {x:zF} (h:x.idx≠j):jJ j b x=x:=by
 unfold jJ;split
 ·rename_i i o e zs
  simp [zF.idx] at h;simp [h]
 ·rfl
theorem YE {j b:Nat} {r:List zF} (h:j∉r.map zF.idx):r.map (jJ j b)=r:=by
 have:∀x∈r,jJ j b x=x:=fun x hx=>zac fun e=>h (List.mem_map.2 ⟨x,hx,e⟩);rw [List.map_congr_left this];simp
theorem j8 {i:Nat} {r:List zF}:i∈yE r↔∃x,x∈r∧x.open_=true∧x.idx=i:=by
 unfold yE;simp only [List.mem_map,List.mem_filter];exact Xbw
theorem vN {i:Nat} {r:List zF}:i∈ZK r↔∃x,x∈r∧x.isFl=false∧x.idx=i:=by
 unfold ZK;simp only [List.mem_map,List.mem_filter,Bool.not_eq_true'];exact Xbw
theorem YA {x:zF} (h:x.isFl=false):x.open_=true:=by cases x<;>first|rfl|cases h
theorem jG (x:zF) (r:List zF):yE (x::r)=if x.open_=true then x.idx::yE r else yE r:=by
 unfold yE;rw [List.filter_cons];split<;>rfl
theorem zi0 {j b:Nat} {r:List zF} (hnd:(r.map zF.idx).Nodup) {o:Oper} {e:TypeId} {zs:Array Value} (hm:zF.fl j o e zs none∈r):(yE (r.map (jJ j b))).length+1=(yE r).length∧∀i,i∈yE (r.map (jJ j b))↔i∈yE r∧i≠j:=by
 induction r with
 | nil=>cases hm
 | cons x r ih =>
  rw [List.map_cons,List.nodup_cons] at hnd
  by_cases hx:x=.fl j o e zs none
  ·subst hx
   have hoff:r.map (jJ j b)=r:=YE hnd.1;rw [List.map_cons,hoff];have h3:yE (zF.fl j o e zs none::r)=j::yE r:=jG _ r
   have h4:yE (jJ j b (zF.fl j o e zs none)::r)=yE r:=by
    rw [show jJ j b (zF.fl j o e zs none)=.fl j o e zs (some b) by simp [jJ]];exact jG _ r
   rw [h3,h4];refine ⟨by simp,fun i=>?_⟩
   have h2:i∈yE r→i≠j:=fun hi e=>by
    obtain ⟨x,hx,_,hxi⟩:=j8.1 hi;exact hnd.1 (List.mem_map.2 ⟨x,hx,by rw [hxi,e];rfl⟩)
   constructor
   ·exact fun hi=>⟨List.mem_cons_of_mem _ hi,h2 hi⟩
   ·rintro ⟨hi,hne⟩
    rcases List.mem_cons.1 hi with e|hi
    ·exact absurd e hne
    ·exact hi
  ·have hm':zF.fl j o e zs none∈r:=by
    rcases List.mem_cons.1 hm with e|h
    ·exact absurd e.symm hx
    ·exact h
   have hxj:x.idx≠j:=fun e'=>hnd.1 (List.mem_map.2 ⟨_,hm', by rw [e'];rfl⟩);obtain ⟨i1,i2⟩:=ih hnd.2 hm';rw [List.map_cons,zac hxj];rw [jG,jG]
   split
   ·refine ⟨by simp;omega,fun i=>?_⟩
    simp only [List.mem_cons,i2];constructor
    ·rintro (h|h)
     ·exact ⟨.inl h,fun e=>hxj (h▸e)⟩
     ·exact ⟨.inr h.1,h.2⟩
    ·rintro ⟨h|h,hne⟩
     ·exact .inl h
     ·exact .inr ⟨h,hne⟩
   ·exact ⟨i1,i2⟩
theorem Zx {d:Option Tmp} {v:Value}:∀(r:List zF) (a:Act),(∀y,y∈r→y.isFl=true→∀x,y.op.dst=some x→d≠some x)→vI r (a.put d v)=(vI r a).put d v
 | [],a,_=>rfl
 | .rd i o::r,a,h=>Zx r a fun y hy=>h y (List.mem_cons_of_mem _ hy)
 | .tl i o::r,a,h=>Zx r a fun y hy=>h y (List.mem_cons_of_mem _ hy)
 | .fl i o e zs none::r,a,h=>Zx r a fun y hy=>h y (List.mem_cons_of_mem _ hy)
 | .fl i o e zs (some b)::r,a,h=>by
  have h1:=h (.fl i o e zs (some b)) List.mem_cons_self rfl;show vI r ((a.put d v).put o.dst _)=(vI r (a.put o.dst _)).put d v;rw [←Zx r (a.put o.dst _) fun y hy=>h y (List.mem_cons_of_mem _ hy)];rw [Act.put_comm (a:=a) (x:=o.dst) (y:=d) (.pointer (some ⟨b,0,none⟩)) v (fun x hx=>h1 x hx)]
theorem zct {x:zF} {r:List zF} (h:chk ops ((x::r).map yU)=true):chk ops (r.map yU)=true∧zaF ops r x.op:=by
 simp only [List.map_cons,chk,Bool.and_eq_true] at h;refine ⟨h.2,fun y hy hf=>?_⟩;have:=h.1;simp only [Yp,Bool.and_eq_true,List.all_map] at this;have q:=List.all_eq_true.1 this.1 y hy;simp only [Function.comp,zbP,ziV,hf,Bool.not_true,Bool.false_or] at q;exact q
theorem QG {j b:Nat} {o:Oper} {e:TypeId} {zs:Array Value}:∀(r:List zF) (a:Act),chk ops (r.map yU)=true→(r.map zF.idx).Nodup→zF.fl j o e zs none∈r→vI (r.map (jJ j b)) a=(vI r a).put o.dst (.pointer (some ⟨b,0,none⟩))
 | [],a,_,_,hm=>by cases hm
 | x::r,a,hc,hnd,hm=>by
  obtain ⟨hc', hap⟩:=zct hc;rw [List.map_cons,List.nodup_cons] at hnd
  by_cases hx:x=.fl j o e zs none
  ·subst hx
   rw [List.map_cons,show r.map (jJ j b)=r from YE hnd.1];have e1:jJ j b (zF.fl j o e zs none)=.fl j o e zs (some b):=by simp [jJ]
   rw [e1];exact Zx (d:=o.dst) r a (fun y hy hf z hz=>(Oper.apart_spec (hap y hy hf)).2.1 z hz)
  ·have hm':zF.fl j o e zs none∈r:=by
    rcases List.mem_cons.1 hm with e|h
    ·exact absurd e.symm hx
    ·exact h
   have hxj:x.idx≠j:=fun e'=>hnd.1 (List.mem_map.2 ⟨_,hm', by rw [e'];rfl⟩);rw [List.map_cons,zac hxj];cases x with
   | rd i o'=>exact QG r a hc' hnd.2 hm'
   | tl i o'=>exact QG r a hc' hnd.2 hm'
   | fl i o' e' zs' st =>
    cases st with
    | none=>exact QG r a hc' hnd.2 hm'
    | some b'=>exact QG r _ hc' hnd.2 hm'
def J7 (ops:Array Oper) (b:Array Bool) (r:List zF):Prop:=b.size=ops.size∧∀i,i<ops.size→(b.getD i true=false↔i∈yE r)
theorem YG {n:Nat} {U:List Nat} {i:Nat} (hi:i<n):(js n U).getD i true=!U.contains i:=by
 simp [js,hi]
theorem JV {n:Nat} {U:List Nat} {i:Nat} (hi:i<n):(js n U).getD i false=!U.contains i:=by
 simp [js,hi]
theorem zg9 {b:Array Bool} {i:Nat} (hi:i<b.size):b.getD i true=b.getD i false:=by simp [hi]
theorem Vt {b:Array Bool} {i:Nat} (h:i∈Region.ready .any ops b):i<ops.size:=by
 obtain ⟨_,o,ho,_⟩:=mem_ready.1 h;exact (Array.getElem?_eq_some_iff.1 ho).1
theorem zeS {b b':Array Bool} {i:Nat} (hle:∀k,b.getD k false=true→b'.getD k false=true) (hi:b'.getD i true=false) (h:i∈Region.ready .any ops b):i∈Region.ready .any ops b':=by
 rw [mem_ready] at *;obtain ⟨_,o,ho,hall⟩:=h;exact ⟨hi,o,ho,fun e he hb=>hle _ (hall e he hb)⟩
theorem J7.to_arr {b:Array Bool} {r:List zF} {U:List Nat} (h:J7 ops b r) (hU:∀i,i∈U→i∈yE r) {i:Nat} (hi:i∈U) (hr:i∈Region.ready .any ops b):i∈Region.ready .any ops (js ops.size U):=by
 have hlt:=Vt hr;refine zeS (fun k hk=>?_) (by rw [YG hlt];simpa using hi) hr
 by_cases hkl:k<ops.size
 ·rw [JV hkl]
  have:¬k∈U:=fun hm=>by
   have:=(h.2 k hkl).2 (hU k hm);rw [zg9 (by rw [h.1];exact hkl),hk] at this;cases this
  simpa using this
 ·have:b.getD k false=false:=by simp [show ¬k<b.size by rw [h.1];exact hkl]
  rw [this] at hk;cases hk
theorem J7.of_arr {b:Array Bool} {r:List zF} {U:List Nat} (h:J7 ops b r) (hU:∀i,i∈yE r→i∈U) {i:Nat} (hi:i∈yE r) (hr:i∈Region.ready .any ops (js ops.size U)):i∈Region.ready .any ops b:=by
 have hlt:=Vt hr;refine zeS (fun k hk=>?_) ((h.2 i hlt).2 hi) hr
 by_cases hkl:k<ops.size
 ·rw [JV hkl] at hk
  have:¬k∈yE r:=fun hm=>by simp [hU k hm] at hk
  have:=fun e=>this ((h.2 k hkl).1 e);rw [zg9 (by rw [h.1];exact hkl)] at this
  simpa using this
 ·have:(js ops.size U).getD k false=false:=by simp [js,hkl]
  rw [this] at hk;cases hk
theorem J7.set {b:Array Bool} {r r':List zF} {j:Nat} (h:J7 ops b r) (hp:∀i,i∈yE r'↔i∈yE r∧i≠j):J7 ops (b.setIfInBounds j true) r':=by
 refine ⟨by simpa using h.1,fun i hi=>?_⟩
 by_cases hij:j=i
 ·subst hij
  have:(b.setIfInBounds j true).getD j true=true:=by simp [h.1,hi]
  rw [this,hp];simp
 ·rw [getD_set_ne true hij,h.2 i hi,hp]
  exact ⟨fun k=>⟨k,fun e=>hij e.symm⟩,fun k=>k.1⟩
structure V5 (w0:World) (L:List Nat) (r:List zF) (w:World):Prop where
 at_:∀i o e zs b,zF.fl i o e zs (some b)∈r→At w b e zs∧w0.heap.size≤b∧b∉L
 two:∀i o e zs b i' o' e' zs' b', zF.fl i o e zs (some b)∈r→zF.fl i' o' e' zs' (some b')∈r→i≠i'→b≠b'
theorem V5.tail {w0 w:World} {L:List Nat} {x:zF} {r:List zF} (h:V5 w0 L (x::r) w):V5 w0 L r w :=
 ⟨fun i o e zs b hm=>h.at_ i o e zs b (List.mem_cons_of_mem _ hm),fun i o e zs b i' o' e' zs' b' h1 h2=>h.two i o e zs b i' o' e' zs' b' (List.mem_cons_of_mem _ h1) (List.mem_cons_of_mem _ h2)⟩
theorem V5.move {w0 w w':World} {G L:List Nat} {r:List zF} (h:V5 w0 L r w) (hG:∀g,g∈G→g<w0.heap.size) (hb:zC w (L++G) w'):V5 w0 L r w' :=
 ⟨fun i o e zs b hm=>by
  obtain ⟨h1,h2,h3⟩:=h.at_ i o e zs b hm
  exact ⟨(hb.block b h1.lt (fun hg=>by
   rcases List.mem_append.1 hg with hg|hg
   ·exact h3 hg
   ·have:=hG b hg;omega)).trans h1,h2,h3⟩,h.two⟩
theorem vy.get {l:List Oper} {r:List zF} (h:vy P l r):∀x,x∈r→l[x.idx]?=some x.op:=by
 induction h with
 | nil=>intro x hx;cases hx
 | rd h _ ih=>intro x hx;rcases List.mem_cons.1 hx with rfl|hx;exact h;exact ih x hx
 | tl h _ ih=>intro x hx;rcases List.mem_cons.1 hx with rfl|hx;exact h;exact ih x hx
 | fl h _ _ _ ih=>intro x hx;rcases List.mem_cons.1 hx with rfl|hx;exact h;exact ih x hx
theorem vy.alloc {l:List Oper} {r:List zF} (h:vy P l r):∀i o e zs st,zF.fl i o e zs st∈r→o.op=.alloc e∧∀w:World,(Instr.alloc e true (.tuple #[])).run P w=.ok (.pointer (some ⟨w.heap.size,0,none⟩)) (w.alloc (.cells zs e)):=by
 induction h with
 | nil=>intro i o e zs st hx;cases hx
 | rd _ _ ih=>intro i o e zs st hx;rcases List.mem_cons.1 hx with e|hx;cases e;exact ih _ _ _ _ _ hx
 | tl _ _ ih=>intro i o e zs st hx;rcases List.mem_cons.1 hx with e|hx;cases e;exact ih _ _ _ _ _ hx
 | fl _ ha hz _ ih=>intro i o e zs st hx;rcases List.mem_cons.1 hx with e|hx;cases e;exact ⟨ha,hz⟩;exact ih _ _ _ _ _ hx
theorem vy.set {l:List Oper} {r:List zF} (h:vy P l r) (j b:Nat):vy P l (r.map (jJ j b)):=by
 induction h with
 | nil=>exact .nil
 | rd h _ ih=>exact .rd h ih
 | tl h _ ih=>exact .tl h ih
 | @fl i o r e zs st h ha hz _ ih =>
  rw [List.map_cons];cases st with
  | none =>
   have hs:jJ j b (zF.fl i o e zs none)=if i=j then .fl i o e zs (some b) else .fl i o e zs none:=rfl;rw [hs]
   split
   ·exact .fl h ha hz ih
   ·exact .fl h ha hz ih
  | some b'=>exact .fl h ha hz ih
theorem vy.tail {l:List Oper} {x:zF} {r:List zF} (h:vy P l (x::r)):vy P l r:=by
 cases h<;>assumption
theorem zgB {i:Nat} {o:Oper} {e:TypeId} {zs:Array Value} {st:Option Nat}:∀(r:List zF),chk ops (r.map yU)=true→zF.fl i o e zs st∈r→o.after.all (fun e=>!Region.binds .any e)=true∧o.guard=none
 | [],_,hm=>by cases hm
 | x::r,hc,hm=>by
  have hc2:=(zct hc).1;rcases List.mem_cons.1 hm with rfl|hm
  ·simp only [List.map_cons,chk,yU,Yp,Bool.and_eq_true] at hc
   exact ⟨hc.1.2.1.2,by simpa using hc.1.2.2⟩
  ·exact zgB r hc2 hm
theorem vW {w0:World} {G:List Nat} {j b:Nat}:∀(r:List zF) (L:List Nat),qp P ops w0 G Q L (r.map (jJ j b))=qp P ops w0 G Q L r
 | [],L=>rfl
 | .rd i o::r,L=>by
  funext a w
  rw [List.map_cons,show jJ j b (.rd i o)=.rd i o from rfl,YN,YN,vW r L]
 | .tl i o::r,L=>by
  funext a w
  have hn:(r.map (jJ j b)≠[])=(r≠[]):=by simp
  rw [List.map_cons,show jJ j b (.tl i o)=.tl i o from rfl,vk,vk];simp only [vW r,hn]
 | .fl i o e zs st::r,L=>by
  funext a w
  have hs:∃st', jJ j b (.fl i o e zs st)=.fl i o e zs st':=by
   cases st with
   | none=>by_cases h:i=j<;>simp [jJ,h]
   | some b'=>exact ⟨_,rfl⟩
  obtain ⟨st', hs⟩:=hs;rw [List.map_cons,hs,YO,YO];apply propext;constructor
  ·intro h w1 b' h1 h2 h3 h4;have:=h w1 b' h1 h2 h3 h4;rw [vW r] at this;exact this
  ·intro h w1 b' h1 h2 h3 h4;have:=h w1 b' h1 h2 h3 h4;rw [vW r];exact this
theorem zcS (j b:Nat) (r:List zF):(r.map (jJ j b)).map yU=r.map yU:=by rw [List.map_map];exact List.map_congr_left fun x _=>zaM j b x
theorem zaT (j b:Nat) (r:List zF):(r.map (jJ j b)).map zF.idx=r.map zF.idx:=by rw [List.map_map];exact List.map_congr_left fun x _=>zhA j b x
theorem ZR {o:Oper} (hso:∀cs b,o.op≠.select cs b):∀(r:List zF) (a:Act),zaF ops r o→execOp (vI r a).eval o=execOp a.eval o∧Region.wanted o (yielded ops (vI r a).tmps)=Region.wanted o (yielded ops a.tmps)
 | [],a,_=>⟨rfl,rfl⟩
 | .rd i o'::r,a,h=>ZR hso r a h.tail
 | .tl i o'::r,a,h=>ZR hso r a h.tail
 | .fl i o' e zs none::r,a,h=>ZR hso r a h.tail
 | .fl i o' e zs (some b)::r,a,h=>by
  obtain ⟨h1,_,_⟩:=Oper.apart_spec (h (.fl i o' e zs (some b)) List.mem_cons_self rfl);obtain ⟨q1,q2⟩:=ZR hso r (a.put o'.dst (.pointer (some ⟨b,0,none⟩))) h.tail;exact ⟨q1.trans (execOp_put o hso a o'.dst _ h1),q2.trans (wanted_put o a o'.dst _ h1)⟩
theorem zaj {w0:World} {G L:List Nat} {z:Nat} {S:World→Prop} {b:Array Bool} {a:Act} {wc w:World} (hc:chk ops ([]:List zF)=true) (hB:J7 ops b []) (hwe:wc=w) (H:qp P ops w0 G Q L [] a wc):zbh P ops Q S z 0 b (vI [] a) w:=by
 subst hwe;refine ⟨?_,H⟩;have:Region.ready .any ops (js ops.size [])=[]:=by simpa [chk] using hc
 rw [List.eq_nil_iff_forall_not_mem];intro i hi;have hlt:=Vt hi;have h1:=(mem_ready.1 hi).1;have:=(hB.2 i hlt).1 h1;simp [yE] at this
theorem V5.made {w0:World} {L:List Nat} {r:List zF} {w:World} {j:Nat} {o:Oper} {e:TypeId} {zs:Array Value} (h:V5 w0 L r w) (hnd:(r.map zF.idx).Nodup) (hm:zF.fl j o e zs none∈r) (hw:w0.heap.size≤w.heap.size) (hL:∀q,q∈L→q<w.heap.size):V5 w0 L (r.map (jJ j w.heap.size)) (w.alloc (.cells zs e)):=by
 have back:∀i o' e' zs' b', zF.fl i o' e' zs' (some b')∈r.map (jJ j w.heap.size)→(zF.fl i o' e' zs' (some b')∈r)∨(i=j∧b'=w.heap.size∧zF.fl i o' e' zs' none∈r):=by
  intro i o' e' zs' b' hx;obtain ⟨x,hx1,hx2⟩:=List.mem_map.1 hx;unfold jJ at hx2
  split at hx2
  ·split at hx2
   ·rename_i hij
    cases hx2;exact .inr ⟨hij,rfl,hx1⟩
   ·cases hx2
  ·subst hx2;exact .inl hx1
 have same:∀i o' e' zs', zF.fl i o' e' zs' none∈r→i=j→e'=e∧zs'=zs:=by
  intro i o' e' zs' h1 hij;subst hij;obtain ⟨p,hp⟩:=List.getElem?_of_mem h1;obtain ⟨q,hq⟩:=List.getElem?_of_mem hm;have e1:(r.map zF.idx)[p]?=some i:=by rw [List.getElem?_map,hp];rfl
  have e2:(r.map zF.idx)[q]?=some i:=by rw [List.getElem?_map,hq];rfl
  obtain ⟨l1,g1⟩:=List.getElem?_eq_some_iff.1 e1;obtain ⟨l2,g2⟩:=List.getElem?_eq_some_iff.1 e2;obtain rfl:p=q:=(List.getElem_inj hnd).1 (g1.trans g2.symm);rw [hp] at hq;cases hq;exact ⟨rfl,rfl⟩
 refine ⟨fun i o' e' zs' b' hx=>?_,fun i o1 e1 z1 b1 i' o2 e2 z2 b2 h1 h2 hne=>?_⟩
 ·rcases back _ _ _ _ _ hx with h1|⟨hij,hb,h1⟩
  ·obtain ⟨a1,a2,a3⟩:=h.at_ _ _ _ _ _ h1
   exact ⟨a1.alloc _,a2,a3⟩
  ·obtain ⟨rfl,rfl⟩:=same _ _ _ _ h1 hij
   subst hb;exact ⟨At.new _ _ _,hw,fun hq=>by have:=hL _ hq;omega⟩
 ·rcases back _ _ _ _ _ h1 with k1|⟨hij,hb,k1⟩
  ·rcases back _ _ _ _ _ h2 with k2|⟨hij2,hb2,k2⟩
   ·exact h.two _ _ _ _ _ _ _ _ _ _ k1 k2 hne
   ·have:=(h.at_ _ _ _ _ _ k1).1.lt;omega
  ·rcases back _ _ _ _ _ h2 with k2|⟨hij2,hb2,k2⟩
   ·have:=(h.at_ _ _ _ _ _ k2).1.lt;omega
   ·exact absurd (hij.trans hij2.symm) hne
theorem V5.more {w0:World} {L D:List Nat} {r:List zF} {w:World} (h:V5 w0 L r w) (k:∀i o e zs b,zF.fl i o e zs (some b)∈r→b∉D):V5 w0 (D++L) r w :=
 ⟨fun i o e zs b hm=>by
  obtain ⟨h1,h2,h3⟩:=h.at_ _ _ _ _ _ hm;exact ⟨h1,h2,fun hq=>(List.mem_append.1 hq).elim (k _ _ _ _ _ hm) h3⟩,h.two⟩
theorem zlt {w0:World} {G:List Nat} {z:Nat} {l:List Oper} (hz:zdo l.toArray z=true) (hsel:Region.noSelect l.toArray=true) (hQ1:∀c a d v w,Q (.panic c) (a.put d v) w→Q (.panic c) a w) (hQ2:∀c a d v w,Q (.panic c) a w→Q (.panic c) (a.put d v) w) (hG:∀g,g∈G→g<w0.heap.size) :
  ∀(N f:Nat) (r:List zF) (L:List Nat) (b:Array Bool) (a:Act) (wc w:World),f+r.length≤N→(yE r).length=f→chk l.toArray (r.map yU)=true→(r.map zF.idx).Nodup→vy P l r→J7 l.toArray b r→V5 w0 L r w→(∀q,q∈L→q<w.heap.size)→(∀q,q∈L→w0.heap.size≤q)→(r=[]∨(r.map zF.idx).getLast?=some z) →
   Below wc.heap.size wc w→(r=[]→wc=w)→qp P l.toArray w0 G Q L r a wc→zC w0 G w→zbh P l.toArray Q (fun w'=>∃x:But w0 G,w'=x.w) z f b (vI r a) w:=by
 intro N
 induction N with
 | zero =>
  intro f r L b a wc w hN hf hc hnd hI hB hM hLw hL0 hl hw hwe H hS;obtain rfl:r=[]:=List.eq_nil_of_length_eq_zero (by omega);obtain rfl:f=0:=by omega
  exact zaj hc hB (hwe rfl) H
 | succ N ih =>
  intro f r L b a wc w hN hf hc hnd hI hB hM hLw hL0 hl hw hwe H hS
  have made:∀(j:Nat) (o:Oper) (e:TypeId) (zs:Array Value),zF.fl j o e zs none∈r→0<f∧wpOp P l.toArray Q j (fun a' w'=>(j≠z→∃x:But w0 G,w'=x.w)∧zbh P l.toArray Q (fun w'=>∃x:But w0 G,w'=x.w) z (f-1) (b.setIfInBounds j true) a' w') (vI r a) w:=by
   intro j o e zs hm;obtain ⟨hp1,hp2⟩:=zi0 (b:=w.heap.size) hnd hm;have hf1:0<f:=by omega
   refine ⟨hf1,?_⟩;have hget:=hI.get _ hm;obtain ⟨hop,hrun⟩:=hI.alloc _ _ _ _ _ hm;have hgd:=(zgB r hc hm).2;have hS':zC w0 G (w.alloc (.cells zs e)):=hS.alloc _
   have key:zbh P l.toArray Q (fun w'=>∃x:But w0 G,w'=x.w) z (f-1) (b.setIfInBounds j true) ((vI r a).put o.dst (.pointer (some ⟨w.heap.size,0,none⟩))) (w.alloc (.cells zs e)):=by
    rw [←QG r a hc hnd hm]
    refine ih (f-1) (r.map (jJ j w.heap.size)) L _ a wc _ (by rw [List.length_map];omega) (by omega) ?_ ?_ (hI.set _ _) (hB.set hp2) ?_ (fun q hq=>by have:=hLw q hq;simp;omega) hL0 ?_ (zi hw (zg (Below.refl _ _) _)) (fun e=>by
     have:r=[]:=by simpa using e
     subst this;cases hm) (by rw [vW];exact H) hS'
    ·rw [zcS];exact hc
    ·rw [zaT];exact hnd
    ·exact hM.made hnd hm hS.size hLw
    ·rw [zaT]
     rcases hl with h|h
     ·subst h;cases hm
     ·exact .inr h
   have hget':l.toArray[j]?=some o:=by rw [List.getElem?_toArray];exact hget
   unfold wpOp;simp only [hget', Region.wanted,hgd,if_true];refine .inl ?_;unfold Oper.wp execOp;simp only [hop,Sem.run_bind,Sem.run_pure,hrun,Result.andThen_ok,Oper.upon];exact ⟨fun _=>⟨⟨_,hS'⟩,rfl⟩,key⟩
  have inr:∀j,j∈Region.ready .any l.toArray b→j∉ZK r→∃o e zs,zF.fl j o e zs none∈r:=by
   intro j hj hn;have hlt:=Vt hj;obtain ⟨x,hx,ho,hxi⟩:=j8.1 ((hB.2 j hlt).1 (mem_ready.1 hj).1);cases x with
   | rd i o=>exact absurd (vN.2 ⟨_,hx,rfl,hxi⟩) hn
   | tl i o=>exact absurd (vN.2 ⟨_,hx,rfl,hxi⟩) hn
   | fl i o e zs st =>
    cases st with
    | none=>cases hxi;exact ⟨o,e,zs,hx⟩
    | some q=>cases ho
  have flr:∀j o e zs,zF.fl j o e zs none∈r→j∈Region.ready .any l.toArray b:=by
   intro j o e zs hm;have hget:=hI.get _ hm;have hget':l.toArray[j]?=some o:=by rw [List.getElem?_toArray];exact hget
   have hlt:j<l.toArray.size:=(Array.getElem?_eq_some_iff.1 hget').1;refine mem_ready.2 ⟨(hB.2 j hlt).2 (j8.2 ⟨_,hm,rfl,rfl⟩),o,hget', fun e he hb=>?_⟩;have:=(Array.all_eq_true_iff_forall_mem.1 (zgB r hc hm).1) e he;rw [hb] at this;cases this
  cases r with
  | nil =>
   obtain rfl:f=0:=by rw [←hf];rfl
   exact zaj hc hB (hwe rfl) H
  | cons x r =>
   obtain ⟨hc', hap⟩:=zct hc;have hnd':=(List.nodup_cons.1 (by rw [List.map_cons] at hnd;exact hnd)).2;have hni:=(List.nodup_cons.1 (by rw [List.map_cons] at hnd;exact hnd)).1
   have hl':r=[]∨(r.map zF.idx).getLast?=some z:=by
    cases r with
    | nil=>exact .inl rfl
    | cons y r=>right;rcases hl with h|h;cases h;simpa using h
   have hlx:r=[]→x.idx=z:=fun e=>by subst e;rcases hl with h|h;cases h;simpa using h
   cases x with
   | rd i o =>
    obtain ⟨f', rfl⟩:∃f', f=f'+1:=⟨(yE r).length,by rw [←hf,jG];rfl⟩
    have hget':l.toArray[i]?=some o:=by rw [List.getElem?_toArray];exact hI.get _ List.mem_cons_self
    have hlt:i<l.toArray.size:=(Array.getElem?_eq_some_iff.1 hget').1;have hch:=hc;simp only [List.map_cons,chk,Yp,yU,Bool.and_eq_true] at hch;rw [zcR,show (zF.rd i o).idx::List.map zF.idx r=(zF.rd i o::r).map zF.idx from rfl] at hch;obtain ⟨⟨_,⟨⟨⟨hrd,hfree⟩,hrk⟩,_⟩,hne0⟩,_⟩:=hch;have hso:=Region.noSelect_spec hsel
    have hri:i∈Region.ready .any l.toArray b:=hB.of_arr (fun k hk=>by
     obtain ⟨y,hy,_,hy3⟩:=j8.1 hk;exact List.mem_map.2 ⟨y,hy,hy3⟩) (j8.2 ⟨_,List.mem_cons_self,rfl,rfl⟩) (by simpa using hrd)
    have hp:∀k,k∈yE r↔k∈yE (zF.rd i o::r)∧k≠i:=fun k=>by
     exact XaS
    have hfr:=Region.free_spec hget' hfree
    have go:∀v,YieldsIf P l.toArray (fun w'=>∃x:But w0 G,w'=x.w) o v a→qp P l.toArray w0 G Q L r (a.put o.dst v) wc→zbh P l.toArray Q (fun w'=>∃x:But w0 G,w'=x.w) z (f'+1) b (vI r a) w:=by
     intro v hy hk;obtain ⟨s1,s2⟩:=ZR (fun cs b=>hso i o cs b hget') r a hap;refine Ve hz hget' hso (fun c a w=>hQ1 c a _ _ w) f' b (vI r a) w (fun j oj hoj hne hun hno=>hfr j oj hoj hne ?_ hno) hri (hy.of_same s1 s2) ⟨⟨w,hS⟩,rfl⟩ ?_
     ·have hjl:j<l.toArray.size:=(Array.getElem?_eq_some_iff.1 hoj).1
      rw [YG hjl];obtain ⟨y,hy,_,hy3⟩:=j8.1 ((hB.2 j hjl).1 hun);have:j∈(zF.rd i o::r).map zF.idx:=List.mem_map.2 ⟨y,hy,hy3⟩;rw [List.contains_iff_mem.2 this];rfl
     ·rw [←Zx (d:=o.dst) r a (fun y hy hf z hz=>(Oper.apart_spec (hap y hy hf)).2.1 z hz)]
      have hr0:r≠[]:=fun e=>by subst e;simp at hne0
      exact ih f' r L _ _ wc w (by simp at hN;omega) (by rw [jG] at hf;simpa [zF.open_] using hf) hc' hnd' hI.tail (hB.set hp) hM.tail hLw hL0 hl' hw (fun e=>absurd e hr0) hk hS
    rw [YN] at H
    split at H
    ·rename_i hwt
     obtain ⟨v,h1,h2⟩:=H;refine go v (.inl ⟨hwt,fun W hW=>?_⟩) h2;have q:=h1 W hW;unfold Oper.quietAt at q;cases hrun:(execOp a.eval o).run P W with
     | halt x w1=>rw [hrun] at q;cases q
     | ok n w1 =>
      obtain ⟨u,rfl⟩:=QS hrk hrun;rw [hrun] at q;obtain ⟨rfl,rfl⟩:=q;rfl
    ·rename_i hwt
     exact go undef (.inr ⟨by simpa using hwt,rfl⟩) H
   | tl i o =>
    obtain ⟨f', rfl⟩:∃f', f=f'+1:=⟨(yE r).length,by rw [←hf,jG];rfl⟩
    have hget':l.toArray[i]?=some o:=by rw [List.getElem?_toArray];exact hI.get _ List.mem_cons_self
    have hch:Region.ready .any l.toArray (js l.toArray.size (ZK (zF.tl i o::r)))=[i]:=by
     simp only [List.map_cons,chk,Yp,yU,Bool.and_eq_true,decide_eq_true_eq] at hc;rw [←zaR];exact hc.1.2
    have hso:=Region.noSelect_spec hsel
    have hp:∀k,k∈yE r↔k∈yE (zF.tl i o::r)∧k≠i:=fun k=>by
     exact XaS
    have hsub:∀k,k∈ZK (zF.tl i o::r)→k∈yE (zF.tl i o::r):=fun k hk=>by
     obtain ⟨y,hy,hy2,hy3⟩:=vN.1 hk;exact j8.2 ⟨y,hy,YA hy2,hy3⟩
    refine ⟨fun h0=>?_,fun j hj=>?_⟩
    ·exfalso
     by_cases hex:∃j o' e zs,zF.fl j o' e zs none∈(zF.tl i o::r)
     ·obtain ⟨j,o', e,zs,hm⟩:=hex
      have:=flr _ _ _ _ hm;rw [h0] at this;cases this
     ·have:i∈Region.ready .any l.toArray b:=hB.of_arr (fun k hk=>by
       obtain ⟨y,hy,hy2,hy3⟩:=j8.1 hk;cases y with
       | rd i' o'=>exact vN.2 ⟨_,hy,rfl,hy3⟩
       | tl i' o'=>exact vN.2 ⟨_,hy,rfl,hy3⟩
       | fl i' o' e zs st =>
        cases st with
        | none=>exact absurd ⟨_,_,_,_,hy⟩ hex
        | some q=>cases hy2) (j8.2 ⟨_,List.mem_cons_self,rfl,rfl⟩) (by rw [hch];simp)
      rw [h0] at this;cases this
    ·by_cases hn:j∈ZK (zF.tl i o::r)
     ·have h1:=hB.to_arr hsub hn hj
      rw [hch] at h1;obtain rfl:j=i:=by simpa using h1
      rw [vk] at H
      have H1:wpOp P l.toArray Q j (fun a' w'=>(r≠[]→zC w (L++G) w')∧∃D:List Nat,(∀d,d∈D→w.heap.size≤d∧d<w'.heap.size)∧qp P l.toArray w0 G Q (D++L) r a' w') a w:=by
       have:=H w hw;unfold wpOp;simp only [hget']
       split
       ·rename_i hwt;rw [if_pos hwt] at this;exact .inl this
       ·rename_i hwt;rw [if_neg hwt] at this;exact ⟨fun _=>zC.refl _ _,[],by simp,this⟩
      have H2:=Zz hget' (fun cs b=>hso j o cs b hget') hQ2 r _ a w hap H1;refine wpOp_mono (fun a' w' h3=>?_) H2;obtain ⟨a'', rfl,k1,D,hD,k2⟩:=h3
      by_cases hr0:r=[]
      ·subst hr0
       obtain rfl:f'=0:=by rw [jG] at hf;simpa [zF.open_,yE] using hf.symm
       exact ⟨fun hne=>absurd (hlx rfl) hne,zaj hc' (hB.set hp) rfl k2⟩
      ·have hb:=k1 hr0
       have hS':zC w0 G w':=⟨Nat.le_trans hS.size hb.size,fun k hk hg=>(hb.block k (Nat.lt_of_lt_of_le hk hS.size) (fun hm=>by
        rcases List.mem_append.1 hm with hm|hm
        ·have:=hL0 k hm;omega
        ·exact hg hm)).trans (hS.block k hk hg)⟩
       exact ⟨fun _=>⟨⟨_,hS'⟩,rfl⟩,ih f' r (D++L) _ _ w' w' (by simp at hN;omega) (by rw [jG] at hf;simpa [zF.open_] using hf) hc' hnd' hI.tail (hB.set hp) ((hM.tail.move hG hb).more fun i o e zs b hm hd=>by
        have:=(hM.tail.at_ _ _ _ _ _ hm).1.lt;have:=(hD b hd).1;omega) (fun q hq=>by
        rcases List.mem_append.1 hq with hq|hq
        ·exact (hD q hq).2
        ·exact Nat.lt_of_lt_of_le (hLw q hq) hb.size) (fun q hq=>by
        rcases List.mem_append.1 hq with hq|hq
        ·exact Nat.le_trans hS.size (hD q hq).1
        ·exact hL0 q hq) hl' (Below.refl _ _) (fun _=>rfl) k2 hS'⟩
     ·obtain ⟨o', e', zs', hm⟩:=inr j hj hn
      exact (made j o' e' zs' hm).2
   | fl i o e zs st =>
    cases st with
    | some q =>
     obtain ⟨a1,a2,a3⟩:=hM.at_ _ _ _ _ _ List.mem_cons_self
     have hM':V5 w0 (q::L) r w:=⟨fun i' o' e' zs' b' hm=>by
      obtain ⟨c1,c2,c3⟩:=hM.at_ _ _ _ _ _ (List.mem_cons_of_mem _ hm);refine ⟨c1,c2,fun hq=>?_⟩;rcases List.mem_cons.1 hq with e|hq
      ·exact hM.two _ _ _ _ _ _ _ _ _ _ (List.mem_cons_of_mem _ hm) List.mem_cons_self (fun e'=>hni (List.mem_map.2 ⟨_,hm,by rw [←e'];rfl⟩)) e
      ·exact c3 hq,hM.tail.two⟩
     have hB':J7 l.toArray b r:=⟨hB.1,fun i' hi'=>by rw [hB.2 i' hi', jG];simp [zF.open_]⟩
     rw [YO] at H
     exact ih f r (q::L) b (a.put o.dst (.pointer (some ⟨q,0,none⟩))) w w (by simp at hN;omega) (by rw [←hf,jG];rfl) hc' hnd' hI.tail hB' hM' (fun k hk=>by
      rcases List.mem_cons.1 hk with rfl|hk
      ·exact a1.lt
      ·exact hLw k hk) (fun k hk=>by
      rcases List.mem_cons.1 hk with rfl|hk
      ·exact a2
      ·exact hL0 k hk) hl' (Below.refl _ _) (fun _=>rfl) (H w q hw a1 a2 a3) hS
    | none =>
     obtain ⟨hf1,_⟩:=made _ _ _ _ List.mem_cons_self;obtain ⟨f', rfl⟩:∃f', f=f'+1:=⟨f-1,by omega⟩
     refine ⟨fun h0=>?_,fun j hj=>?_⟩
     ·have:=flr _ _ _ _ List.mem_cons_self;rw [h0] at this;cases this
     ·by_cases hn:j∈ZK (zF.fl i o e zs none::r)
      ·exfalso
       have hn':j∈ZK r:=hn
       have h1:j∈Region.ready .any l.toArray (js l.toArray.size (i::ZK r)):=hB.to_arr (fun k hk=>by
        rcases List.mem_cons.1 hk with rfl|hk
        ·exact j8.2 ⟨_,List.mem_cons_self,rfl,rfl⟩
        ·obtain ⟨y,hy,hy2,hy3⟩:=vN.1 hk
         exact j8.2 ⟨y,List.mem_cons_of_mem _ hy,YA hy2,hy3⟩) (List.mem_cons_of_mem _ hn') hj
       have h2:(Region.ready .any l.toArray (js l.toArray.size (i::ZK r))).all (·==i)=true:=by
        simp only [List.map_cons,chk,Yp,yU,Bool.and_eq_true,zaR] at hc;exact hc.1.2.1.1
       have h3:j=i:=by simpa using List.all_eq_true.1 h2 j h1
       obtain ⟨y,hy,hy2,hy3⟩:=vN.1 hn';exact hni (List.mem_map.2 ⟨y,hy,by rw [hy3,h3];rfl⟩)
      ·obtain ⟨o', e', zs', hm⟩:=inr j hj hn
       exact (made j o' e' zs' hm).2
def zb4 (ops:Array Oper) (r:List zF):Bool:=Region.noSelect ops&&chk ops r&&zdo ops ((r.map zF.idx).getLast?.getD 0)&&decide (r.map zF.idx).Nodup&&decide (r.length=ops.size)&&(List.range ops.size).all (fun i=>(r.map zF.idx).contains i)&&r.all (fun x=>x.open_)&&!r.isEmpty
theorem zf6 {x:zF} (h:x.open_=true):yU x=x:=by
 cases x with
 | rd=>rfl
 | tl=>rfl
 | fl i o e zs st=>cases st with
  | none=>rfl
  | some b=>cases h
theorem Jd:∀(r:List zF) (a:Act),(∀x,x∈r→x.open_=true)→vI r a=a
 | [],a,_=>rfl
 | .rd i o::r,a,h=>Jd r a fun x hx=>h x (List.mem_cons_of_mem _ hx)
 | .tl i o::r,a,h=>Jd r a fun x hx=>h x (List.mem_cons_of_mem _ hx)
 | .fl i o e zs none::r,a,h=>Jd r a fun x hx=>h x (List.mem_cons_of_mem _ hx)
 | .fl i o e zs (some b)::r,a,h=>by have:=h _ List.mem_cons_self;cases this
theorem Zy {a:Act} {w:World} {l:List Oper} {r:List zF} (G:List Nat) (hI:vy P l r) (hB:zb4 l.toArray r=true) (hQ1:∀c a d v w,Q (.panic c) (a.put d v) w→Q (.panic c) a w) (hQ2:∀c a d v w,Q (.panic c) a w→Q (.panic c) (a.put d v) w) (hG:∀g,g∈G→g<w.heap.size)
  (h:qp P l.toArray w G Q [] r a w.drew):wpAny P .any l.toArray Q l.toArray.size (Array.replicate l.toArray.size false) a w.drew:=by
 simp only [zb4,Bool.and_eq_true,decide_eq_true_eq] at hB;obtain ⟨⟨⟨⟨⟨⟨⟨hsel,hc⟩,hz⟩,hnd⟩,hlen⟩,hall⟩,hop⟩,hne⟩:=hB;have hopen:∀x,x∈r→x.open_=true:=fun x hx=>List.all_eq_true.1 hop x hx
 have hsh:r.map yU=r:=by
  have:=List.map_congr_left (f:=yU) (g:=id) (l:=r) fun x hx=>zf6 (hopen x hx);rw [this];simp
 have hpend:yE r=r.map zF.idx:=by
  unfold yE;rw [List.filter_eq_self.2 hopen]
 have hrne:r≠[]:=by intro e;subst e;simp at hne
 obtain ⟨z,hze⟩:∃z,(r.map zF.idx).getLast?=some z:=by
  cases e:(r.map zF.idx).getLast? with
  | none=>rw [List.getLast?_eq_none_iff] at e;exact absurd (List.map_eq_nil_iff.1 e) hrne
  | some z=>exact ⟨z,rfl⟩
 rw [hze] at hz
 have hF:J7 l.toArray (Array.replicate l.toArray.size false) r:=by
  refine ⟨by simp,fun i hi=>?_⟩;have h1:(Array.replicate l.toArray.size false).getD i true=false:=by simp [show i<l.length by simpa using hi]
  have h2:i∈yE r:=by
   rw [hpend];have:=List.all_eq_true.1 hall i (List.mem_range.2 hi);exact List.contains_iff_mem.1 this
  simp only [h1,h2]
 have:=zlt (P:=P) (Q:=Q) (w0:=w) (G:=G) (z:=z) (l:=l) hz hsel hQ1 hQ2 hG _ (yE r).length r [] (Array.replicate l.toArray.size false) a w.drew w.drew (Nat.le_refl _) rfl (by rw [hsh];exact hc) hnd hI hF
  ⟨fun i o e zs b hm=>(by have:=hopen _ hm;cases this),fun i o e zs b i' o' e' zs' b' hm=>(by have:=hopen _ hm;cases this)⟩ (fun q hq=>by cases hq) (fun q hq=>by cases hq) (.inr hze) (Below.refl _ _) (fun _=>rfl) h ((zC.refl w G).drew)
 rw [Jd r a hopen,hpend,List.length_map,hlen] at this;exact J5 _ _ _ _ this
theorem zG {id:Nat} {a:Act} {w:World} {l:List Oper} {r:List zF} (G:List Nat) (hI:vy P l r) (hm:P.follows .mixedOrders=true) (hB:zb4 l.toArray r=true) (hQ1:∀c a d v w,Q (.panic c) (a.put d v) w→Q (.panic c) a w) (hQ2:∀c a d v w,Q (.panic c) a w→Q (.panic c) (a.put d v) w) (hG:∀g,g∈G→g<w.heap.size)
  (h:qp P l.toArray w G Q [] r a w.drew):(Code.region id l.toArray true).wp P Q a w :=
 wp_region_any hm (Zy G hI hB hQ1 hQ2 hG h)
theorem zf {w0:World} {G L:List Nat} {i:Nat} {o:Oper} {r:List zF} {a:Act} {w:World} (h:wpQuiet P ops (fun w'=>∃x:But w0 G,w'=x.w) (fun a'=>qp P ops w0 G Q L r a' w) [o] a):qp P ops w0 G Q L (.rd i o::r) a w:=h
theorem zm {w0:World} {G L:List Nat} {i:Nat} {o:Oper} {r:List zF} {a:Act} {w:World} (hg:o.guard=none) (h:∀w1,Below w.heap.size w w1→∀K:Act→World→Prop,(∀a' w', zC w1 (L++G) w'→qp P ops w0 G Q L r a' w'→K a' w')→o.wp P a w1 K Q):qp P ops w0 G Q L (.tl i o::r) a w:=by
 rw [vk];intro w1 hw1;rw [if_pos (by simp [Region.wanted,hg])];exact h w1 hw1 _ fun a' w' h1 h2=>⟨fun _=>h1,[],by simp,h2⟩
theorem zcL {w0:World} {G L:List Nat} {i:Nat} {o:Oper} {r:List zF} {a:Act} {w:World} (hg:o.guard=none) (h:∀w1,Below w.heap.size w w1→∀K:Act→World→Prop,(∀a' w' D,zC w1 (L++G) w'→(∀d,d∈D→w1.heap.size≤d∧d<w'.heap.size)→qp P ops w0 G Q (D++L) r a' w'→K a' w')→o.wp P a w1 K Q):qp P ops w0 G Q L (.tl i o::r) a w:=by
 rw [vk];intro w1 hw1;rw [if_pos (by simp [Region.wanted,hg])];exact h w1 hw1 _ fun a' w' D h1 hD h2=>⟨fun _=>h1,D,hD,h2⟩
theorem zJ {w0:World} {G L:List Nat} {i:Nat} {o:Oper} {a:Act} {w:World} (hg:o.guard=none) (h:∀w1,Below w.heap.size w w1→∀K:Act→World→Prop,(∀a' w', Q .normal a' w'→K a' w')→o.wp P a w1 K Q):qp P ops w0 G Q L [.tl i o] a w:=by
 rw [vk];intro w1 hw1;rw [if_pos (by simp [Region.wanted,hg])];exact h w1 hw1 _ fun a' w' h2=>⟨fun h=>absurd rfl h,[],by simp,h2⟩
theorem zT {w0:World} {G L:List Nat} {i:Nat} {o:Oper} {e:TypeId} {zs:Array Value} {st:Option Nat} {r:List zF} {a:Act} {w:World} (h:∀w1 b,Below w.heap.size w w1→At w1 b e zs→w0.heap.size≤b→b∉L→qp P ops w0 G Q (b::L) r (a.put o.dst (.pointer (some ⟨b,0,none⟩))) w1):qp P ops w0 G Q L (.fl i o e zs st::r) a w:=h
end
theorem Yr (w:World):(Instr.alloc 65 true (.tuple #[])).run Tryz.prog w=.ok (.pointer (some ⟨w.heap.size,0,none⟩)) (w.alloc (.cells #[.int .i64 0,.int .i64 0,.slice none 0 0] 65)):=by
 have hu:=Tryz.underlying65;simp [Instr.alloc,go_sem,hu]
end
end Go.Proofs.YtcoiklclbljjeaaGreatDoor.L
