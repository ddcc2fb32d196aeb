/- Lemmas of the card's proof. -/
import Derived.RangeFuncNested
import Derived.RangeFuncBound
import Derived.OwnWalkIn
import Derived.TacticsInMore
import Derived.LoopNIn
import Derived.LoopIn
import Derived.Test.YtcoiklclbljjeaaGreatDoorM05
set_option linter.unusedVariables false
set_option linter.unusedSimpArgs false
set_option maxRecDepth 100000
set_option maxHeartbeats 16000000
namespace Go.Proofs.YtcoiklclbljjeaaGreatDoor.L
open Go.RowKit
theorem XbB {P:Prop} (h:P:=by
 obtain ⟨hlt,e⟩:=Array.getElem?_eq_some_iff.1 ho;exact e▸(Array.all_eq_true.1 hd) i hlt) : P := h
section
theorem zw {P:Program} {f:FuncId} {args:Array Value} {w:World} {R:Ending→World→Prop} (n:Nat) (h:Calls P f args w R):CallsIn Fence.wide n P f args w R:=callsIn_wide.2 h
theorem zfC {P:Program} {f:FuncId} {args:Array Value} {w:World} {R:Ending→World→Prop} (l n:Nat) (h:Calls P f args w R):CallsIn (Fence.wide.inRound l) n P f args w R:=CallsIn.inRound l (callsIn_wide.2 h)
theorem zfY {P:Program} {row:String} {args:Array Value} {w:World} {R:Value→World→Prop} (l n:Nat) (h:Rows P row args w R):RowsIn (Fence.wide.inRound l) n P row args w R :=
 fun c cs _=>let ⟨v,w', r,s⟩:=h c cs;⟨v,w', r,stepsIn_wide.2 s⟩
def qY (o:Oper):Bool:=match o.op with | .defer _=>false|_=>true
theorem Vy {o:Oper} (h:qY o=true):∀c,o.op≠.defer c:=fun c e=>by unfold qY at h;rw [e] at h;cases h
section
variable {P:Program} {Q:Exit→Act→World→Prop} {ops:Array Oper}
theorem zbT {l n:Nat} {o:Oper} {a:Act} {w:World} {K:Act→World→Prop} (hd:qY o=true) (h:o.wp P a w K Q):o.wpIn (Fence.wide.inRound l) n P a w K Q:=by
 refine ⟨fun _ _=>trivial,?_⟩;show o.uponIn (Fence.wide.inRound l) n P a K Q ((o.semAt (some l) a.eval).run P w);rw [Oper.semAt_some l _ _ (Vy hd)];unfold Oper.wp at h;generalize (execOp a.eval o).run P w=r at *;cases r with
 | ok nx w' =>
  cases nx with
  | value v=>exact h
  | skip=>exact h
  | defer d=>exact h
  | enter f args=>exact ⟨fun hh=>(by cases hh),zfC l _ (h.mono fun e w'' he=>by cases e<;>exact he)⟩
  | row row args=>exact ⟨fun hh=>(by cases hh),zfY l _ h⟩
  | _=>exact h.elim
 | halt x w'=>cases x<;>exact h
theorem Zs {l n:Nat} (hd:ops.all qY=true) (hL:¬LetsOut Q):∀(fuel:Nat) (b:Array Bool) (a:Act) (w:World),wpAny P .any ops Q fuel b a w→wpAnyIn (Fence.wide.inRound l) n P .any ops Q fuel b a w
 | 0,_,_,_,h=>h
 | fuel+1,b,a,w,h=>⟨h.1,fun i hi=>by
  have hh:=h.2 i hi;unfold wpOp at hh;unfold wpOpIn;cases ho:ops[i]? with
  | none=>rw [ho] at hh;exact Zs hd hL fuel _ _ _ hh
  | some o =>
   rw [ho] at hh
   have hno:qY o=true:=by
    exact XbB
   simp only at hh ⊢
   split at hh
   ·rename_i hw
    rw [if_pos hw];rcases hh with hh|⟨_,hh⟩
    ·exact zbT hno (Oper.wp_mono' (fun a' w' h'=>Zs hd hL fuel _ _ _ h') hh)
    ·exact absurd hh hL
   ·rename_i hw
    rw [if_neg hw];exact ⟨fun _ _=>trivial,Zs hd hL fuel _ _ _ hh⟩⟩
theorem jV {id l n:Nat} {a:Act} {w:World} (hm:P.follows .mixedOrders=true) (hd:ops.all qY=true) (hL:¬LetsOut Q) (h:wpAny P .any ops Q ops.size (Array.replicate ops.size false) a w.drew) :
  (Code.region id ops true).wpIn (Fence.wide.inRound l) n P Q a w :=
 wpIn_region_any hm (Zs hd hL _ _ _ _ h)
theorem JG {id n:Nat} {a:Act} {w:World} (hm:P.follows .mixedOrders=true) (h:wpAny P .any ops Q ops.size (Array.replicate ops.size false) a w.drew) :
  (Code.region id ops true).wpIn Fence.wide n P Q a w:=wpIn_wide.2 (wp_region_any hm h)
end
structure zbk (F:Fence):Prop where
 fn:∀f,F.fn f
 op:∀ {n:Nat} {P:Program} {Q:Exit→Act→World→Prop} {o:Oper} {a:Act} {w:World} {K:Act→World→Prop},qY o=true→o.wp P a w K Q→o.wpIn F n P a w K Q
theorem yp (l:Nat):zbk (Fence.wide.inRound l):=⟨fun _=>trivial,zbT⟩
theorem qJ:zbk Fence.wide:=⟨fun _=>trivial,fun {n P Q o a w K} hd h=>by
 refine ⟨fun _ _=>trivial,?_⟩;show o.uponIn Fence.wide n P a K Q ((o.semAt none a.eval).run P w);rw [Oper.semAt_none];unfold Oper.wp at h;generalize (execOp a.eval o).run P w=r at *;cases r with
 | ok nx w' =>
  cases nx with
  | value v=>exact h
  | skip=>exact h
  | defer d=>exact h
  | enter f args=>exact ⟨fun hh=>(by cases hh),zw _ (h.mono fun e w'' he=>by cases e<;>exact he)⟩
  | row row args=>exact ⟨fun hh=>(by cases hh),fun c cs _=>let ⟨v,w', r,s⟩:=h c cs;⟨v,w', r,stepsIn_wide.2 s⟩⟩
  | _=>exact h.elim
 | halt x w'=>cases x<;>exact h⟩
section
variable {P:Program} {Q:Exit→Act→World→Prop} {ops:Array Oper} {F:Fence} {n:Nat}
theorem VT:∀(l:List Oper) (k:Nat) (b:Array Bool) (a:Act) (w:World),(∀j,l[j]?=ops[k+j]?)→Region.seqB .any ops l.length k b=true→wpListIn F n P ops Q l a w→wpAnyIn F n P .any ops Q l.length b a w
 | [],_,b,a,w,_,hB,h=>⟨by simpa [Region.seqB] using hB,h⟩
 | o::l,k,b,a,w,hl,hB,h=>by
  have h0:ops[k]?=some o:=by simpa using (hl 0).symm
  simp only [List.length_cons,Region.seqB,Bool.and_eq_true,decide_eq_true_eq] at hB;refine ⟨fun h1=>(by rw [hB.1] at h1;cases h1),fun i hi=>?_⟩;rw [hB.1] at hi;obtain rfl:i=k:=by simpa using hi
  have hw:wpOpIn F n P ops Q i (wpListIn F n P ops Q l) a w:=by unfold wpOpIn;simp only [h0];exact h
  unfold wpOpIn at hw ⊢;simp only [h0] at hw ⊢
  have go:∀a' w', wpListIn F n P ops Q l a' w'→wpAnyIn F n P .any ops Q l.length (b.setIfInBounds i true) a' w':=fun a' w' h' =>
   VT l (i+1) _ a' w' (fun j=>by have:=hl (j+1);rw [show i+1+j=i+(j+1) by omega,←this];simp) hB.2 h'
  split at hw
  ·rename_i hq;rw [if_pos hq];exact Oper.wpIn_mono go hw
  ·rename_i hq;rw [if_neg hq];exact ⟨hw.1,go _ _ hw.2⟩
theorem zeW {C:World→Prop} {i:Nat} {a:Act} {K:Act→Prop} {K':Act→World→Prop} {w:World} (hF:zbk F) (hd:ops.all qY=true) (hC:C w) (h:∀a w', C w'→K a→K' a w') (hh:qOp P ops C i K a):wpOpIn F n P ops Q i K' a w:=by
 unfold qOp at hh;unfold wpOpIn;cases ho:ops[i]? with
 | none=>rw [ho] at hh;exact h _ _ hC hh
 | some o =>
  rw [ho] at hh
  have hno:qY o=true:=by
   exact XbB
  simp only at hh ⊢
  split at hh
  ·rename_i hw;rw [if_pos hw];exact hF.op hno (Oper.wp_of_quiet hC h hh)
  ·rename_i hw;rw [if_neg hw];exact ⟨fun f _=>hF.fn f,h _ _ hC hh⟩
theorem J6 {C:World→Prop} (hF:zbk F) (hd:ops.all qY=true) {m g:Nat} {L:Array Bool→Act→Prop} (hL:∀b a w,C w→L b a→wpAnyIn F n P .any ops Q g b a w) :
  ∀(f:Nat) (b:Array Bool) (a:Act) (w:World),C w→zdr P ops C m L f b a→wpAnyIn F n P .any ops Q (f+g) b a w
 | 0,b,a,w,hw,h=>by rw [Nat.zero_add];exact hL b a w hw h
 | f+1,b,a,w,hw,h=>by
  have e:f+1+g=(f+g)+1:=by omega
  rw [e];exact ⟨fun h0=>absurd h0 h.1,fun i hi=>zeW hF hd hw (fun a' w' hw' hh=>J6 hF hd hL f _ a' w' hw' hh) (h.2 i hi).2⟩
theorem zdV {C:World→Prop} {id:Nat} {a:Act} {w:World} {l:List Oper} (hF:zbk F) (m:Nat) (hC:C w.drew) (hm:P.follows .mixedOrders=true) (hd:l.toArray.all qY=true) (hB:Region.lexTailB .any l.toArray m=true)
  (h:wpQuiet P l.toArray C (fun a'=>∀w', C w'→wpListIn F n P l.toArray Q (l.drop m) a' w') (l.take m) a):(Code.region id l.toArray true).wpIn F n P Q a w:=by
 simp only [Region.lexTailB,Bool.and_eq_true,decide_eq_true_eq] at hB;obtain ⟨⟨⟨⟨hsel,hn⟩,hs⟩,hc⟩,hlex⟩:=hB;have hn':m<l.length:=by simpa using hn
 have htl:(l.take m).length=m:=by simp;omega
 have hdl:(l.drop m).length=l.toArray.size-m:=by simp
 have inv0:HeadInv .any l.toArray m (Array.replicate l.toArray.size false) :=
  ⟨by simp,fun j oj _ hl=>(by rw [getD_replicate_false] at hl;cases hl),fun t _ ht=>getD_in (by simpa using ht) (getD_replicate_false _ _)⟩
 have H:=zam (P:=P) (C:=C) (g:=l.toArray.size-m) hsel hs hc hn (l.take m) 0 _ a (fun j hj=>by
  rw [htl] at hj;simp [hj]) (by simpa using htl) inv0 (by rw [htl];exact hlex) h
 refine wpIn_region_any hm ?_
 have R:=J6 (Q:=Q) (n:=n) hF hd (g:=l.toArray.size-m) (fun b a' w' hw' hL=>by
  have:=VT (P:=P) (Q:=Q) (F:=F) (n:=n) (l.drop m) m b a' w' (fun j=>by simp [List.getElem?_drop]) (by rw [hdl];exact hL.1) (hL.2 w' hw')
  rwa [hdl] at this) _ _ _ w.drew hC H
 rw [htl] at R;have e:m+(l.toArray.size-m)=l.toArray.size:=by omega
 rw [e] at R;exact R
theorem Zn {id:Nat} {a:Act} {w:World} {l:List Oper} (hF:zbk F) (m:Nat) (hm:P.follows .mixedOrders=true) (hd:l.toArray.all qY=true) (hB:Region.lexTailB .any l.toArray m=true)
  (h:wpQuiet P l.toArray (fun w'=>w'=w.drew) (fun a'=>wpListIn F n P l.toArray Q (l.drop m) a' w.drew) (l.take m) a):(Code.region id l.toArray true).wpIn F n P Q a w :=
 zdV (C:=fun w'=>w'=w.drew) hF m rfl hm hd hB (by
  have e:(fun a'=>∀w', w'=w.drew→wpListIn F n P l.toArray Q (l.drop m) a' w')=(fun a'=>wpListIn F n P l.toArray Q (l.drop m) a' w.drew):=funext fun a'=>propext ⟨fun h=>h _ rfl,fun h w' e=>e▸h⟩;rw [e];exact h)
end
end
end Go.Proofs.YtcoiklclbljjeaaGreatDoor.L
