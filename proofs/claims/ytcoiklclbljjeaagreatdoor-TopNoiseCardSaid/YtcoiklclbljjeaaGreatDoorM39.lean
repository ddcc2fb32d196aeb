/- Lemmas of the card's proof. -/
import Derived.Test.YtcoiklclbljjeaaGreatDoorM38
set_option linter.unusedVariables false
set_option linter.unusedSimpArgs false
set_option maxRecDepth 100000
set_option maxHeartbeats 16000000
namespace Go.Proofs.YtcoiklclbljjeaaGreatDoor.L
open Go.RowKit
def zfH (E:Nat) (bd:Int) (x:ES) (pc:Array Value) (y:ES) (w w':World):Prop :=
 ∃pc':Array Value,pc'.size=24∧At w' E 98 (qU y.on y.pn y.ps pc' y.m y.st bd)∧((pc'=pc∧y.r=x.r∧y.on=x.on)∨(y.on=true∧qG w' w.heap.size y.r (.agg pc')))
theorem zfr (E:Nat) (bd:Int) (x:ES) (hk:OkE x) (pc:Array Value) (hp:pc.size=24) (k s n:Int) (A:Option Addr) (mm c:Nat) (l:List Int) (w:World)
  (hA:At w E 98 (qU x.on x.pn x.ps pc x.m x.st bd)) (hr:zaE x.on w (E+1) x.r (.agg pc)) (hx:zU w A mm c l) (hAE:∀q o,A=some ⟨q,o,none⟩→q≠E) (hmm:mm≤1000) :
  Calls Tryz.prog 40 #[.pointer (some ⟨E,0,none⟩),qV k s n A mm c] w fun e w'=>(∃u,e=.returned (.tuple #[u,.int .i64 (yi x k s n l)])∧jt w' w.heap.size (JA x k s n l) u)∧zD [E] w w'∧zfH E bd x pc (zaJ x k s n l) w w':=by
 by_cases hn:Zb x.on x.pn x.ps k s n l=0
 ·by_cases h3:x.m=3∧k≠1
  ·have e:yi x k s n l=10:=by unfold yi;rw [if_neg (by simpa using hn),if_pos h3]
   refine (zas E x.on x.pn x.ps pc x.m x.st bd hp hk.ps k s n A mm c l hn h3.1 h3.2 w hA hx hAE hmm).mono ?_;rintro e' w' ⟨⟨u,rfl,hu⟩,ht,ha⟩;unfold JA zaJ;rw [e,if_neg (by decide),if_neg (by decide)];exact ⟨⟨u,rfl,hu⟩,ht,pc,hp,ha,.inl ⟨rfl,rfl,rfl⟩⟩
  ·have e:yi x k s n l=0:=by unfold yi;rw [if_neg (by simpa using hn),if_neg h3]
   obtain ⟨hso,hok,hnx⟩:=zdg hn;obtain ⟨hn1,hn4,hs0,hs1,_,_⟩:=zX hok;obtain ⟨q,rfl⟩:∃q:Nat,n=q:=⟨n.toNat,by omega⟩
   unfold JA zaJ;rw [e,if_pos rfl,if_pos rfl]
   have fin:∀ {y:ES} (e':Ending) (w':World),((∃u,e'=.returned (.tuple #[u,.int .i64 0])∧jt w' w.heap.size (ZM y.m y.r s) u)∧zD [E] w w'∧∃pc', pc'.size=24∧At w' E 98 (qU true q s pc' y.m y.st bd)∧qG w' w.heap.size y.r (.agg pc'))→y.on=true→y.pn=q→y.ps=s →
     ((∃u,e'=.returned (.tuple #[u,.int .i64 0])∧jt w' w.heap.size (ZM y.m y.r s) u)∧zD [E] w w'∧zfH E bd x pc y w w'):=by
    rintro y e' w' ⟨h1,h2,pc', h4,h5,h6⟩ g1 g2 g3;exact ⟨h1,h2,pc', h4,by rw [g1,g2,g3];exact h5,.inr ⟨g1,h6⟩⟩
   by_cases hk1:k=1
   ·subst hk1
    unfold zh7;rw [if_pos rfl,Int.toNat_natCast];have FD:=fun (W:World) (a:At W E 98 (qU x.on x.pn x.ps pc x.m x.st bd)) (_:zaE x.on W (E+1) x.r (.agg pc)) (i:zU W A mm c l)=>zft E x.on x.pn x.ps pc x.m x.st bd hp hk.ps hk.calm s q A mm c l W a i hAE hmm hok hso hn;have MK:=fun (B:Nat) (v:Value) (W:World) (o:qG W B (zbg q l) v)=>Vs 0 (.inr (.inl ⟨rfl,by decide,by decide⟩)) s (zbg q l) v B W o
    by_cases hm:x.m=3
    ·exact (zbf E x.on x.pn x.ps pc x.m x.st bd hp hk.ps 1 s q A mm c l x.r (zbg q l) 1 0 hn ⟨hm,rfl⟩ w hA hr hx hAE hmm FD MK).mono fun e' w' h=>fin (y:=⟨true,q,s,zbg q l,1,0⟩) e' w' h rfl rfl rfl
    ·exact (Jo E x.on x.pn x.ps pc x.m x.st bd hp hk.ps 1 s q A mm c l x.r (zbg q l) 1 0 hn hm w hA hr hx hAE hmm FD MK).mono fun e' w' h=>fin (y:=⟨true,q,s,zbg q l,1,0⟩) e' w' h rfl rfl rfl
   ·unfold zh7
    rw [if_neg hk1];obtain ⟨hon,hnp⟩:=hnx hk1;obtain ⟨hm,hr1,hr4,hb,hrn⟩:=hk.run hon
    have hm1:x.m=1∧0≤x.st∧x.st≤65536:=by
     rcases hm with hm|hm
     ·exact hm
     ·exact absurd ⟨hm.1,hk1⟩ h3
    have hq:q=x.r.n:=by omega
    subst hq;have hb':=zaz hk1 hok hso hb;have gp:zjq (yA k x.r l)≤0:=by rw [zjp hb'];exact Int.le_refl _
    obtain ⟨on,pn,ps,r,m,st⟩:=x;dsimp only at *;obtain ⟨rfl,hst0,hst1⟩:=hm1;subst hon;have AF:=fun (W:World) (i:zU W A mm c l) (o:qG W (E+1) r (.agg pc))=>zhL o hr1 hb hk1 i hok hso
    have go:∀(kev m' st':Int),(∀(qc:Array Value) (W:World),qc.size=24→At W E 98 (qU true r.n s qc 1 st bd)→qG W (E+1) (yA k r l) (.agg qc)→Calls Tryz.prog 109 #[.pointer (some ⟨E,0,none⟩),.bool false] W fun e w'=>e=.returned (.agg #[kev,.int .i64 (-1)])∧Below W.heap.size W w') →
      (∀W,Calls Tryz.prog 106 #[yG 1 0 0 st,.agg #[kev,.int .i64 (-1)]] W fun e w'=>e=.returned (yG m' 0 0 st')∧Below W.heap.size W w')→((m':Int)==2)=false →
      (∀(B:Nat) (v:Value) (W:World),qG W B (yA k r l) v→Calls Tryz.prog 77 #[yG m' 0 0 st', v,.bool false,s] W fun e w'=>(∃u,e=.returned u∧jt w' W.heap.size (ZM m' (yA k r l) s) u)∧Below W.heap.size W w') →
      Calls Tryz.prog 40 #[.pointer (some ⟨E,0,none⟩),qV k s r.n A mm c] w fun e w'=>(∃u,e=.returned (.tuple #[u,.int .i64 0])∧jt w' w.heap.size (ZM m' (yA k r l) s) u)∧zD [E] w w'∧zfH E bd ⟨true,pn,ps,r,1,st⟩ pc ⟨true,r.n,s,yA k r l,m', st'⟩ w w' :=
     fun kev m' st' EV NX hm2 MK=>(Jo E true pn ps pc 1 st bd hp hk.ps k s r.n A mm c l r (yA k r l) m' st' hn (by decide) w hA hr hx hAE hmm
      (fun W a o i=>zfs E pn ps pc st bd hp hk.ps k s r.n A mm c l r (yA k r l) kev m' st' W a (o rfl) i hAE hmm hk1 hn AF gp EV NX hm2) MK).mono fun e' w' h=>fin (y:=⟨true,r.n,s,yA k r l,m', st'⟩) e' w' h rfl rfl rfl
    unfold zdJ
    by_cases hru:Z6 (yA k r l)=true
    ·simp only [hru,if_true]
     exact go 4 3 st (fun qc W h1 h2 h4=>zcZ E true r.n s qc 1 st bd h1 _ _ W h2 h4 hru) (fun W=>zfJ st hst0 hst1 W) rfl (fun B v W o=>Vr st (.inr (.inr ⟨rfl,hst0,by omega⟩)) s _ v B W o)
    ·have hru':Z6 (yA k r l)=false:=by simpa using hru
     have NX:=fun W=>zfK st hst0 hst1 W;simp only [hru', Bool.false_eq_true,if_false]
     by_cases hst:65536<st+1
     ·rw [if_pos hst] at NX ⊢
      exact go 2 3 (st+1) (fun qc W h1 h2 h4=>YI E true r.n s qc 1 st bd h1 _ _ W h2 h4 hru') NX rfl (fun B v W o=>Vr (st+1) (.inr (.inr ⟨rfl,by omega,by omega⟩)) s _ v B W o)
     ·rw [if_neg hst] at NX ⊢
      exact go 2 1 (st+1) (fun qc W h1 h2 h4=>YI E true r.n s qc 1 st bd h1 _ _ W h2 h4 hru') NX rfl (fun B v W o=>Vs (st+1) (.inr (.inl ⟨rfl,by omega,by omega⟩)) s _ v B W o)
 ·have e:yi x k s n l=Zb x.on x.pn x.ps k s n l:=by unfold yi;rw [if_pos hn]
  refine (zcn E x.on x.pn x.ps pc x.m x.st bd hp hk.ps k s n A mm c l _ rfl hn w hA hx hAE hmm).mono ?_;rintro e' w' ⟨⟨u,rfl,hu⟩,ht,ha⟩;unfold JA zaJ;rw [e,if_neg hn,if_neg hn];exact ⟨⟨u,rfl,hu⟩,ht,pc,hp,ha,.inl ⟨rfl,rfl,rfl⟩⟩
section
attribute [local go_sem] Oper.semAt_some
theorem zlc (xs:List Int):(dL xs).length≤1000:=by
 unfold dL;rw [zet];have:=zdl (xs.getD 2 0) (xs.getD 3 0);unfold zaZ;omega
theorem Tab.touch {G:List Nat} {w w':World} (h:Tab w) (k:zD G w w') (hG:∀q,q∈G→0<q):Tab w':=fun i hi=>by
 have hl:0<w.heap.size:=World.block_lt_of_cell? w ⟨0,i,none⟩ (h i hi);rw [←h i hi];exact jb (k.block 0 hl (fun hq=>by have:=hG 0 hq;omega))
end
section
variable {F:Fence} {n:Nat} {P:Program}
def zlF {σ:Type} (F:Fence) (n:Nat) (P:Program) (g:Nat) (lb:Array Value) (Kp:σ→World→Prop) (s0:σ) (Y:σ→World→Array Value→σ→World→Prop) (T:σ→Prop) (Z:σ→World→World→Prop):Prop :=
 ∀(l:Nat) (J:σ→World→Prop) (W:World),(∀s W', J s W'→Kp s W') →
  (∀s s' args W0 W1,J s W0→Y s W0 args s' W1→YieldAt F (n-1) P l args W1 fun e W'=>e=.returned (.bool true)∧J s' W') →
  J s0 W→CallsIn F n P g (#[.func (.yield l) #[] #[]]++lb) W fun e W'=>(∃v,e=.returned v)∧∃s W2,T s∧J s W2∧Z s W2 W'
theorem zeC {σ:Type} {g:Operand} {ps:Array Tmp} {assign body:Code} {Q:Exit→Act→World→Prop} {a:Act} {w:World}
  (hro:F.round=none) (h1:1≤n) {gf:Nat} {lb:Array Value} (hg:a.eval g=.func (.func gf) #[] lb) (hFg:F.fn gf) (eg:∀args w,(callFunc gf args).run P w=.ok (.enter gf args) w)
  {Kp:σ→World→Prop} {s0:σ} {Y:σ→World→Array Value→σ→World→Prop} {T:σ→Prop} {Z:σ→World→World→Prop} (hseq:zlF F (n-1) P gf lb Kp s0 Y T Z) (hYK:∀s W0 args s' W1,Y s W0 args s' W1→KeepsFrom 0 W0 W1) (hZK:∀s W W', Z s W W'→KeepsFrom 0 W W') (hps:∀s W0 args s' W1,Y s W0 args s' W1→args.size=ps.size)
  (I:σ→World→Prop) (hIK:∀s W,I s W→Kp s W) (hI:∀s W W' row,I s W→W.grownBy W' row→(∀r,row=some r→w.heap.size≤r∧r<w.heap.size+2∧∃o:Obj,W.heap[r]?=some o∧o.isCells=false)→I s W') (hIZ:∀s W W', T s→I s W→Z s W W'→I s W') (h0:I s0 w)
  (hround:∀(l:Nat) (s s':σ) (args:Array Value) (W0 W1:World),w.heap.size≤l→l<w.heap.size+2→w.heap.size+2≤W0.heap.size→I s W0→(∃r,W0.heap[l]?=some (.loop r))→Y s W0 args s' W1 →
   assign.wpIn (F.inRound l) (n-1-1) P (Exit.then (fun a' Wa=>KeepsFrom w.heap.size W1 Wa∧∀W2,Wa.grownBy W2 (some l)→(∃o:Obj,Wa.heap[l]?=some o∧o.isCells=false)→(∃r,W2.heap[l]?=some (.loop r))→body.wpIn (F.inRound l) (n-1-1) P (Vp w.heap.size W2 (I s')) a' W2) (fun _ _ _=>False))
    { tmps:=(ps.zip args).foldl (fun t (p,v)=>t.setIfInBounds p v) a.tmps,defers:=[] } W1)
  (hdone:∀(D:Nat) (s:σ) (W:World),w.heap.size≤D→D<w.heap.size+2→T s→I s W→W.heap[D]?=some (.deferred (some []))→Q .normal { a with defers:={ target:=.collected D,args:=#[] }::a.defers } W) :
  (Code.rangeFunc g ps assign body).wpIn F n P Q a w:=by
 refine wpIn_rangeFunc fun fn hfn=>?_;rw [hro];obtain ⟨rc,hrc⟩:∃rc:Loop,rc={ state:=.ready,pending:=none,fn,tmps:=a.tmps,params:=ps,assign,body,defers:=w.heap.size }:=⟨_,rfl⟩
 obtain ⟨W1,hW1⟩:=zc ((w.alloc (.deferred (some []))).alloc (.loop rc))
 have hL1:W1.heap[w.heap.size+1]?=some (.loop rc):=by
  exact Xa0
 have hD1:W1.heap[w.heap.size]?=some (.deferred (some [])):=by
  exact Xbn
 have hI1:I s0 W1:=by
  exact XbC
 refine ⟨w.heap.size+1,[{ target:=.collected w.heap.size,args:=#[] }],W1,{ target:=.fn (.func gf) lb,args:=#[.func (.yield (w.heap.size+1)) #[] #[]] },W1,gf,
  #[.func (.yield (w.heap.size+1)) #[] #[]]++lb,W1,?_,?_,?_,?_,fun _=>h1,?_⟩
 ·rw [←hW1,hrc];exact run_enterLoop_outer _ _ _ _ _
 ·simp only [resolve,hg]
  simp [go_sem]
 ·intro f' hf';simp [Target.leads] at hf';subst hf';exact hFg
 ·simp [invoke,go_sem,eg]
 ·refine (hseq (w.heap.size+1) (fun s W=>I s W∧W.heap[w.heap.size+1]?=some (.loop rc)∧W.heap[w.heap.size]?=some (.deferred (some []))) W1 (fun s W h=>hIK _ _ h.1) ?_ ⟨hI1,hL1,hD1⟩).mono ?_
  ·rintro s s' args W0 Wy ⟨hi,hl,hd⟩ hy
   have hb:=hYK _ _ _ _ _ hy;have hl0:w.heap.size+1<W0.heap.size:=(Array.getElem?_eq_some_iff.1 hl).1;have hly:=hb.same _ _ (Nat.zero_le _) hl rfl;have hdy:=hb.same _ _ (Nat.zero_le _) hd rfl;have hr:=hround (w.heap.size+1) s s' args W0 Wy (by omega) (by omega) (by omega) hi ⟨_,hl⟩ hy;obtain ⟨fn', t', as', bo', hyy,hR⟩:=Vg hfn (by rw [hly,hrc]) (hps _ _ _ _ _ hy) (show w.heap.size≤w.heap.size+1 by omega) hr
   refine ⟨fn', t', as', bo', hyy,hR.mono ?_⟩;rintro e W' ⟨rfl,W3,hi3,hg3,ho3,hk⟩;refine ⟨rfl,hI _ _ _ _ hi3 hg3 (fun r e=>by cases e;exact ⟨by omega,by omega,ho3⟩),hk.same _ _ (by omega) hly rfl,hk.same _ _ (Nat.le_refl _) hdy rfl⟩
  ·rintro e W' ⟨⟨v,rfl⟩,s,W2,hT,⟨hi,hl,hd⟩,hz⟩
   have hb:=hZK _ _ _ hz;have hl0:w.heap.size+1<W2.heap.size:=(Array.getElem?_eq_some_iff.1 hl).1;have hly:=hb.same _ _ (Nat.zero_le _) hl rfl;have hdy:=hb.same _ _ (Nat.zero_le _) hd rfl;refine ⟨none,_,by have:=run_endLoop (P:=P) hly (by rw [hrc];simp);rw [hrc] at this;exact this,?_⟩;exact hdone _ s _ (Nat.le_refl _) (by omega) hT (hI _ _ _ _ (hIZ _ _ _ hT hi hz) (grownBy_putObj' _ _ _) (fun r e=>by cases e;exact ⟨by omega,by omega,_,hly,rfl⟩)) ((World.putObj_heap_other (by omega)).trans hdy)
end
theorem Xbh {P:Prop} (h:P:=by
 gi_wp2_with fail;go_roundw
 case rel=>exact ⟨j+1,pre,W2,by omega,by go_num,hjj,HW1,HP1⟩
 case measure=>simp [intOf];omega) : P := h
section
attribute [local go_sem] Oper.semAt_some
theorem vt {P:Program} {b:Frame} {a:Act} {k:List Go.Item} {cs:List Frame} {w:World} {c:Code}:step P (lone (b.atR a (.code (.scope c)::k)) cs w)=.next (lone (b.atR a (.code c::.inScope c::k)) cs w) :=
 step_lone_go (by simp [stepG,stepG.exec,Frame.atR])
theorem zcN {P:Program} {b:Frame} {a:Act} {k:List Go.Item} {cs:List Frame} {w:World} {c:Code}:step P (lone (b.atR a (.inScope c::k)) cs w)=.next (lone (b.atR a k) cs w) :=
 step_lone_go (by simp [stepG,stepG.exec,Frame.atR])
theorem Ys {F:Fence} {n:Nat} {P:Program} {Q:Exit→Act→World→Prop} {a:Act} {w:World} {c:Code} (h:c.wpIn F n P (Exit.noGoto Q) a w):(Code.scope c).wpIn F n P Q a w:=by
 intro b k cs hro hb hr;have h0:(lone (b.atR a (.code (.scope c)::k)) cs w).fenced P F:=fenced_calm hb hr rfl;obtain ⟨e,a₁,w₁,hq,harr⟩:=h b (.inScope c::k) cs hro hb hr;cases e with
 | normal=>exact ⟨.normal,a₁,w₁,hq,.head h0 vt (StepsIn.trans harr (.one (fenced_calm hb hr rfl) zcN))⟩
 | exit id' =>
  have hx:exitTo id' (.inScope c::k)=exitTo id' k:=by simp [exitTo]
  exact ⟨.exit id', a₁,w₁,hq,fun k' hk=>.head h0 vt (harr.1 k' (by rw [hx];exact hk)),
   fun hr' hk=>let ⟨k₁,h1,h2⟩:=harr.2 hr' (by rw [hx];exact hk);⟨k₁,h1,.head h0 vt h2⟩⟩
 | goto l=>exact hq.elim
 | ret=>exact ⟨_,a₁,w₁,hq,.of_steps (.one h0 vt) harr⟩
 | panic ch=>exact ⟨_,a₁,w₁,hq,.of_steps (.one h0 vt) harr⟩
 | outgrown=>exact ⟨_,a₁,w₁,hq,.of_steps (.one h0 vt) harr⟩
def yy (l:List Int):Nat:=(sizeOf l).toNat
def Z9:Nat→List Int→List (List Int)
 | 0,_=>[]
 | f+1,l=>if l=[] then [] else if yy l=0∨l.length<yy l∨yN (l.take (yy l))≠0 then Z9 f l.tail else l.take (yy l)::Z9 f (l.drop (yy l))
theorem vC:∀(f g:Nat) (l:List Int),l.length≤f→l.length≤g→Z9 f l=Z9 g l
 | 0,g,l,h,_=>by
  obtain rfl:l=[]:=List.eq_nil_of_length_eq_zero (by omega);cases g<;>rfl
 | f+1,0,l,_,h=>by
  obtain rfl:l=[]:=List.eq_nil_of_length_eq_zero (by omega);rfl
 | f+1,g+1,l,h1,h2=>by
  unfold Z9
  by_cases e:l=[]
  ·rw [if_pos e,if_pos e]
  ·have hl:0<l.length:=List.length_pos_iff.2 e
   rw [if_neg e,if_neg e]
   split
   ·exact vC f g _ (by rw [List.length_tail];omega) (by rw [List.length_tail];omega)
   ·rename_i h
    have hk:yy l≠0:=fun e=>h (.inl e);rw [vC f g (l.drop (yy l)) (by rw [List.length_drop];omega) (by rw [List.length_drop];omega)]
def qD (l:List Int):List (List Int):=Z9 l.length l
theorem YT:qD []=[]:=rfl
theorem zaQ {l:List Int} (hl:l≠[]) (h:yy l=0∨l.length<yy l∨yN (l.take (yy l))≠0):qD l=qD l.tail:=by
 have h0:0<l.length:=List.length_pos_iff.2 hl;unfold qD;rw [vC l.length ((l.length-1)+1) l (Nat.le_refl _) (by omega)]
 conv=>lhs;unfold Z9
 rw [if_neg hl,if_pos h,List.length_tail]
theorem zaP {l:List Int} (hl:l≠[]) (h:¬(yy l=0∨l.length<yy l∨yN (l.take (yy l))≠0)):qD l=l.take (yy l)::qD (l.drop (yy l)):=by
 have h0:0<l.length:=List.length_pos_iff.2 hl;unfold qD;rw [vC l.length ((l.length-1)+1) l (Nat.le_refl _) (by omega)]
 conv=>lhs;unfold Z9
 have hk:yy l≠0:=fun e=>h (.inl e);rw [if_neg hl,if_neg h,vC (l.length-1) (l.drop (yy l)).length _ (by rw [List.length_drop];omega) (Nat.le_refl _)]
def FrY (P:List (List Int)) (pre:List (List Int)) (W0:World) (args:Array Value) (pre':List (List Int)) (W1:World):Prop :=
 Below W0.heap.size W0 W1∧∃(ys:List Int) (q:Int) (A:Option Addr) (m c:Nat),pre'=pre++[ys]∧pre' <+: P∧yN ys=0∧args=#[.int .i64 q,qV (ys.getD 2 0) (ZW ys) (ys.getD 3 0) A m c]∧zU W1 A m c (dL ys)∧∀b o,A=some ⟨b,o,none⟩→W0.heap.size≤b
theorem FrY.size {P:List (List Int)}:∀s W0 args s' W1,FrY P s W0 args s' W1→args.size=2:=by
 rintro s W0 args s' W1 ⟨_,ys,q,A,m,c,_,_,_,rfl,_⟩;rfl
def FrK (h:Nat) (A:Option Addr) (n c:Nat) (xs:List Int) (W:World):Prop:=Tab W∧At W h 41 #[.slice A n c]∧qt W A n c xs
theorem FrK.below {h:Nat} {A:Option Addr} {n c:Nat} {xs:List Int} {W W':World} (k:FrK h A n c xs W) (b:Below W.heap.size W W'):FrK h A n c xs W':=⟨k.1.below b,k.2.1.below b,k.2.2.below b⟩
theorem At.one {w:World} {g:Nat} {t:TypeId} {a:Value} (h:At w g t #[a]):w.cell? ⟨g,0,none⟩=some a:=h.cell 0
theorem zh2 (m:Nat) (h:Nat) (A:Option Addr) (n c:Nat) (xs:List Int) (hn:n≤10000) (hB:IsB xs) :
  zlF Fence.wide (m+2) Tryz.prog 94 #[.pointer (some ⟨h,0,none⟩)] (fun _ W=>FrK h A n c xs W) ([]:List (List Int)) (FrY (qD xs)) (fun s=>s=qD xs) (fun _ W W'=>Below W.heap.size W W'):=by
 intro lp J V hJ hY h0;have HJ:=za hJ;have HY:=za hY;have HB:=za hB;have hu:=Tryz.underlying47;have hu1:=Tryz.underlying41;have hlen:=(hJ _ _ h0).2.2.1;clear hJ hY hB;refine callsIn_of_wp Tryz.func94 rfl trivial ?_ rfl;simp only [Tryz.ntmps94,List.size_toArray,List.length_cons,List.length_nil,Nat.reduceAdd,Nat.reduceSub,Array.replicate_succ,Array.replicate_zero,List.push_toArray,List.append_toArray,List.nil_append,List.cons_append]
 gi_wp2;refine Ys ?_;refine wpIn_seq_k fun K hK=>?_;refine wpIn_label ?_;refine hK _ _ ?_;clear hK K;gi_wp2
 gi_loopw [3,4,5,6] (fun i _ _ _ wr=>∃(j:Nat) (pre:List (List Int)) (W2:World),j≤n∧i=.int .i64 j∧Hid (J pre W2)∧Hid (Below W2.heap.size W2 wr)∧Hid (pre++qD (xs.drop j)=qD xs)) (fun i _ _ _ _=>n-(intOf i).toNat)
 case atStart=>exact ⟨0,[],_,by omega,rfl,h0,za (Below.refl _ _),za rfl⟩
 case round =>
  obtain ⟨j,pre,W2,hj,rfl,hjj,HW,HP⟩:=hrel;have KK:=za ((HJ.out _ _ hjj.out).below HW.out);have HT:=za KK.out.1;have HX:=za KK.out.2.2;have b0:=KK.out.2.1.one
  by_cases hlt:j<n
  ·have hltI:(j:Int)<(n:Int):=by omega
   have hnc:=HX.out.2.1;have hc1:¬c=j:=by omega
   have hc2:¬j=c:=by omega
   obtain ⟨b,o,rfl,_⟩:=HX.out.2.2 (by omega);have HR:=za (HX.out.rest j (n-j) (by omega));have hdn:xs.drop j≠[]:=by intro e;have:=congrArg List.length e;rw [List.length_drop] at this;simp at this;omega
   have hdl:(xs.drop j).length=n-j:=by rw [List.length_drop,hlen]
   have htl:(xs.drop j).tail=xs.drop (j+1):=by rw [List.tail_drop]
   have HBR:=za (show IsB (xs.drop j) from fun x hx=>HB.out x (List.mem_of_mem_drop hx));have PS:=za (fun h=>zaQ hdn h);have PT:=za (fun h=>zaP hdn h);have hz0:=Y4 ((xs.drop j).getD 2 0) ((xs.drop j).getD 3 0)
   have hzz:sizeOf (xs.drop j)=0∨(12≤sizeOf (xs.drop j)∧sizeOf (xs.drop j)≤268):=by
    unfold sizeOf
    split
    ·exact .inl rfl
    ·split
     ·split
      ·exact .inl rfl
      ·exact .inr ⟨by omega,by omega⟩
     ·exact .inl rfl
   have hsk:yy (xs.drop j)=(sizeOf (xs.drop j)).toNat:=rfl;rw [hsk,hdl,htl] at PS;rw [hsk,hdl] at PT;have hSZ:=fun W h=>zhB (some ⟨b,o+j,none⟩) (n-j) (c-j) (xs.drop j) (by omega) HBR.out W h;obtain ⟨z,hz⟩:=zc (sizeOf (xs.drop j));rw [hz] at hSZ PS PT hzz;have SZ:=za hSZ;clear hSZ hsk hz0 hz;gi_wp2_with fail;refine ⟨trivial,(zw (m+1) (SZ.out wr HR.out)).mono ?_⟩;rintro e w1 ⟨rfl,hb1⟩
   have HW1:=za (zi HW.out hb1);have KK1:=za (KK.out.below hb1);have b1:=KK1.out.2.1.one;clear b0 hb1 SZ HR
   by_cases hz0:z=0
   ·have HP1:=za (show pre++qD (xs.drop (j+1))=qD xs by rw [←PS.out (.inl (by omega))];exact HP.out)
    subst hz0;clear hzz PS PT;exact Xbh
   by_cases hzb:(n:Int)-(j:Int)<z
   ·have HP1:=za (show pre++qD (xs.drop (j+1))=qD xs by rw [←PS.out (.inr (.inl (by omega)))];exact HP.out)
    clear PS PT;exact Xbh
   obtain ⟨k,rfl⟩:∃k:Nat,z=(k:Int):=⟨z.toNat,by omega⟩
   have hk0:12≤k:=by omega
   have hkn:j+k≤n:=by omega
   have HM:=za (KK1.out.2.2.mid j k hkn);have hdt:(xs.take (j+k)).drop j=(xs.drop j).take k:=by rw [List.drop_take,Nat.add_sub_cancel_left]
   rw [hdt] at HM;rw [Int.toNat_natCast] at PS PT;clear hdt hzz;have hk00:((k:Int)==0)=false:=by rw [beq_eq_false_iff_ne];omega
   have hjk:¬c<j+k:=by omega
   gi_wp2_with fail;have hkl:((xs.drop j).take k).length=k:=by rw [List.length_take,hdl];omega
   have HMk:=za (show qt w1 (some ⟨b,o+j,none⟩) k k ((xs.drop j).take k) from ⟨hkl,Nat.le_refl _,HM.out.2.2⟩);have HBk:=za (show IsB ((xs.drop j).take k) from HBR.out.upto k);obtain ⟨ys,hys⟩:=zc ((xs.drop j).take k);rw [hys] at HMk HBk PS PT;rw [List.drop_drop] at PT;refine ⟨trivial,(zw (m+1) (zek _ k k ys (by omega) HBk.out w1 KK1.out.1 HMk.out)).mono ?_⟩;rintro e w2 (⟨hne,rfl,hb2⟩|⟨he0,Af,mf,cf,rfl,hif,hb2,hfr⟩)
   ·have HP1:=za (show pre++qD (xs.drop (j+1))=qD xs by rw [←PS.out (.inr (.inr hne))];exact HP.out)
    have HW2:=za (zi HW1.out hb2);obtain ⟨r,hr⟩:=zc (yN ys);rw [hr] at hne ⊢;unfold qV;have hrb:(r==0)=false:=by rw [beq_eq_false_iff_ne];exact hne
    clear PS PT HM HMk HBk hb2 b1 hr;gi_wp2_with fail;have HW3:=za (zg HW2.out (.cells #[.int .i64 0,.int .i64 0,.int .i64 0,.slice none 0 0] 47));go_roundw
    case rel=>exact ⟨j+1,pre,W2,by omega,by go_num,hjj,HW3,HP1⟩
    case measure=>simp [intOf];omega
   ·have hPT:=PT.out (by rintro (h|h|h);omega;omega;exact h he0)
    have HP1:=za (show (pre++[ys])++qD (xs.drop (j+k))=qD xs by rw [List.append_assoc,List.singleton_append,←hPT];exact HP.out);have HW2:=za (zi HW1.out hb2);obtain ⟨fk,hfk⟩:∃x,ys.getD 2 0=x:=⟨_,rfl⟩
    obtain ⟨fs,hfs⟩:∃x,ZW ys=x:=⟨_,rfl⟩
    obtain ⟨fn,hfn⟩:∃x,ys.getD 3 0=x:=⟨_,rfl⟩
    have HW3:=za (zg HW2.out (.cells #[.int .i64 fk,.int .i64 fs,.int .i64 fn,.slice Af mf cf] 47));have hy:=za (HY.out pre (pre++[ys]) _ W2 _ hjj.out ⟨HW3.out,ys,(j:Int),Af,mf,cf,rfl,⟨_,HP1.out⟩,he0,rfl,hif.below (zg (Below.refl _ w2) _),fun q o e=>by have:=hfr q o e;have:=HW1.out.size;omega⟩);rw [hfk,hfs,hfn] at hy;rw [hfk,hfs,hfn];unfold qV at hy ⊢;have y4:=(At.new w2 47 #[.int .i64 fk,.int .i64 fs,.int .i64 fn,.slice Af mf cf]).four
    obtain ⟨y0,y1,y2,y3⟩:=y4;obtain ⟨gf,tm,asg,bdy,hyy,hR⟩:=hy.out;clear hPT PS PT HM HMk HBk hb2 b1 hif hfr he0 hfk hfs hfn hy;gi_wp2_with fail;refine hR.mono ?_;rintro e W3 ⟨rfl,hJ3⟩;have HJ3:=za hJ3;clear hJ3 hR hyy y0 y1 y2 y3;gi_wp2_with fail;go_roundw
    case rel=>exact ⟨j+k,pre++[ys],W3,by omega,by go_num,HJ3,za (Below.refl _ _),HP1⟩
    case measure=>simp [intOf];omega
  ·obtain rfl:n=j:=by omega
   have hPE:pre=qD xs:=by have h:=HP.out;rw [List.drop_of_length_le (by omega),YT,List.append_nil] at h;exact h
   gi_wp2_with fail;unfold Exit.noGoto
   go_end0
   exact ⟨⟨_,rfl⟩,_,W2,hPE,hjj.out,HW.out⟩
end
section
variable {F:Fence} {n:Nat} {P:Program}
def zlG {σ:Type} (F:Fence) (n:Nat) (P:Program) (g:Nat) (lb:Array Value) (Kp:σ→World→Prop) (s0:σ) (Y:σ→World→Array Value→σ→World→Prop) (T:σ→Prop) (Z:σ→World→World→Prop):Prop :=
 ∀(l:Nat) (J:Nat→σ→World→Prop) (W:World),(∀N s W', J N s W'→Kp s W')→(∀N s X X' row,J N s X→X.grownBy X' row→(∀r,row=some r→W.heap.size≤r∧r<N∧∃o:Obj,X.heap[r]?=some o∧o.isCells=false)→J N s X') →
  (∀N s s' args W0 W1,J N s W0→N≤W0.heap.size→Y s W0 args s' W1→YieldAt F (n-3) P l args W1 fun e W'=>e=.returned (.bool true)∧J N s' W'∧KeepsFrom W.heap.size W1 W'∧∀k,W.heap.size≤k→k<N→W'.heap[k]?=W1.heap[k]?) →
  (∀N,W.heap.size≤N→J N s0 W)→CallsIn F n P g (#[.func (.yield l) #[] #[]]++lb) W fun e W'=>(∃v,e=.returned v)∧∃N s W2,T s∧J N s W2∧Z s W2 W'
theorem Ju {σ:Type} {g:Operand} {ps:Array Tmp} {assign body:Code} {Q:Exit→Act→World→Prop} {a:Act} {w:World}
  (hro:F.round=none) (h1:1≤n) {gf:Nat} {lb:Array Value} (hg:a.eval g=.func (.func gf) #[] lb) (hFg:F.fn gf) (eg:∀args w,(callFunc gf args).run P w=.ok (.enter gf args) w)
  {Kp:σ→World→Prop} {s0:σ} {Y:σ→World→Array Value→σ→World→Prop} {T:σ→Prop} {Z:σ→World→World→Prop} (hseq:zlG F (n-1) P gf lb Kp s0 Y T Z) (hYK:∀s W0 args s' W1,Y s W0 args s' W1→KeepsFrom 0 W0 W1) (hZK:∀s W W', Z s W W'→KeepsFrom 0 W W') (hps:∀s W0 args s' W1,Y s W0 args s' W1→args.size=ps.size)
  (I:Nat→σ→World→Prop) (hIK:∀N s W,I N s W→Kp s W) (hI:∀N s W W' row,I N s W→W.grownBy W' row→(∀r,row=some r→w.heap.size≤r∧r<N∧∃o:Obj,W.heap[r]?=some o∧o.isCells=false)→I N s W') (hIZ:∀N s W W', T s→I N s W→Z s W W'→I N s W') (h0:∀N,w.heap.size≤N→I N s0 w)
  (hround:∀(l N:Nat) (s s':σ) (args:Array Value) (W0 W1:World),w.heap.size≤l→l<w.heap.size+2→w.heap.size+2≤N→N≤W0.heap.size→I N s W0→(∃r,W0.heap[l]?=some (.loop r))→Y s W0 args s' W1 →
   assign.wpIn (F.inRound l) (n-1-3) P (Exit.then (fun a' Wa=>KeepsFrom w.heap.size W1 Wa∧∀W2,Wa.grownBy W2 (some l)→(∃o:Obj,Wa.heap[l]?=some o∧o.isCells=false)→(∃r,W2.heap[l]?=some (.loop r))→body.wpIn (F.inRound l) (n-1-3) P (Vp w.heap.size W2 fun W'=>I N s' W'∧∀k,w.heap.size+2≤k→k<N→W'.heap[k]?=W1.heap[k]?) a' W2) (fun _ _ _=>False))
    { tmps:=(ps.zip args).foldl (fun t (p,v)=>t.setIfInBounds p v) a.tmps,defers:=[] } W1)
  (hdone:∀(D N:Nat) (s:σ) (W:World),w.heap.size≤D→D<N→T s→I N s W→W.heap[D]?=some (.deferred (some []))→Q .normal { a with defers:={ target:=.collected D,args:=#[] }::a.defers } W) :
  (Code.rangeFunc g ps assign body).wpIn F n P Q a w:=by
 refine wpIn_rangeFunc fun fn hfn=>?_;rw [hro];obtain ⟨rc,hrc⟩:∃rc:Loop,rc={ state:=.ready,pending:=none,fn,tmps:=a.tmps,params:=ps,assign,body,defers:=w.heap.size }:=⟨_,rfl⟩
 obtain ⟨W1,hW1⟩:=zc ((w.alloc (.deferred (some []))).alloc (.loop rc))
 have hL1:W1.heap[w.heap.size+1]?=some (.loop rc):=by
  exact Xa0
 have hD1:W1.heap[w.heap.size]?=some (.deferred (some [])):=by
  exact Xbn
 have hs1:W1.heap.size=w.heap.size+2:=by rw [←hW1];simp
 have hI1:∀N,w.heap.size≤N→I N s0 W1:=fun N hN=>by
  rw [←hW1];exact hI _ _ _ _ none (hI _ _ _ _ none (h0 N hN) (World.grownBy_alloc w _ none) (fun r e=>by cases e)) (World.grownBy_alloc _ _ none) (fun r e=>by cases e)
 refine ⟨w.heap.size+1,[{ target:=.collected w.heap.size,args:=#[] }],W1,{ target:=.fn (.func gf) lb,args:=#[.func (.yield (w.heap.size+1)) #[] #[]] },W1,gf,
  #[.func (.yield (w.heap.size+1)) #[] #[]]++lb,W1,?_,?_,?_,?_,fun _=>h1,?_⟩
 ·rw [←hW1,hrc];exact run_enterLoop_outer _ _ _ _ _
 ·simp only [resolve,hg]
  simp [go_sem]
 ·intro f' hf';simp [Target.leads] at hf';subst hf';exact hFg
 ·simp [invoke,go_sem,eg]
 ·refine (hseq (w.heap.size+1) (fun N s W=>I N s W∧W.heap[w.heap.size+1]?=some (.loop rc)∧W.heap[w.heap.size]?=some (.deferred (some []))∧w.heap.size+2≤N) W1 (fun N s W h=>hIK _ _ _ h.1) ?_ ?_ (fun N hN=>⟨hI1 N (by omega),hL1,hD1,by omega⟩)).mono ?_
  ·rintro N s X X' row ⟨hi,hl,hd,hn⟩ hg hr
   have hlt:w.heap.size+1<X.heap.size:=(Array.getElem?_eq_some_iff.1 hl).1;exact ⟨hI _ _ _ _ row hi hg (fun r e=>⟨by have:=(hr r e).1;omega,(hr r e).2⟩),(hg.block _ hlt (fun e=>by have:=(hr _ e.symm).1;omega)).trans hl,(hg.block _ (by omega:w.heap.size<X.heap.size) (fun e=>by have:=(hr _ e.symm).1;omega)).trans hd,hn⟩
  ·rintro N s s' args W0 Wy ⟨hi,hl,hd,hn⟩ hN hy
   have hb:=hYK _ _ _ _ _ hy;have hl0:w.heap.size+1<W0.heap.size:=(Array.getElem?_eq_some_iff.1 hl).1;have hly:=hb.same _ _ (Nat.zero_le _) hl rfl;have hdy:=hb.same _ _ (Nat.zero_le _) hd rfl;have hr:=hround (w.heap.size+1) N s s' args W0 Wy (by omega) (by omega) hn hN hi ⟨_,hl⟩ hy;obtain ⟨fn', t', as', bo', hyy,hR⟩:=Vg hfn (by rw [hly,hrc]) (hps _ _ _ _ _ hy) (show w.heap.size≤w.heap.size+1 by omega) hr
   refine ⟨fn', t', as', bo', hyy,hR.mono ?_⟩;rintro e W' ⟨rfl,W3,⟨hi3,hk3⟩,hg3,ho3,hk⟩;refine ⟨rfl,⟨hI _ _ _ _ _ hi3 hg3 (fun r e=>by cases e;exact ⟨by omega,by omega,ho3⟩),hk.same _ _ (by omega) hly rfl,hk.same _ _ (Nat.le_refl _) hdy rfl,hn⟩,⟨hk.size,fun k o h1 h2 h3=>hk.same k o (by omega) h2 h3⟩,fun k h1 h2=>?_⟩;have hky:=hk3 k (by omega) h2;have hlt:k<Wy.heap.size:=by have:=hb.size;omega
   have hlt3:k<W3.heap.size:=(Array.getElem?_eq_some_iff.1 (hky.trans (Array.getElem?_eq_getElem hlt))).1;exact (hg3.block k hlt3 (fun e=>by cases e;omega)).trans hky
  ·rintro e W' ⟨⟨v,rfl⟩,N,s,W2,hT,⟨hi,hl,hd,hn⟩,hz⟩
   have hb:=hZK _ _ _ hz;have hl0:w.heap.size+1<W2.heap.size:=(Array.getElem?_eq_some_iff.1 hl).1;have hly:=hb.same _ _ (Nat.zero_le _) hl rfl;have hdy:=hb.same _ _ (Nat.zero_le _) hd rfl;refine ⟨none,_,by have:=run_endLoop (P:=P) hly (by rw [hrc];simp);rw [hrc] at this;exact this,?_⟩;exact hdone _ N s _ (Nat.le_refl _) (by omega) hT (hI _ _ _ _ _ (hIZ _ _ _ _ hT hi hz) (grownBy_putObj' _ _ _) (fun r e=>by cases e;exact ⟨by omega,by omega,_,hly,rfl⟩)) ((World.putObj_heap_other (by omega)).trans hdy)
end
section
attribute [local go_sem] Oper.semAt_some
theorem ZD {P:Program} {w:World} {a:Addr} {m:Mode} (f:Fn) (x y:Array Value):(store a (.func f x y) m).run P w=stored P w a (.func f x y) m:=run_store P w a _ m rfl
attribute [local go_sem] ZD
def goE (x:ES) (ys:List Int):ES:=zaJ x (ys.getD 2 0) (ZW ys) (ys.getD 3 0) (dL ys)
def yk (x:ES) (l:List (List Int)):ES:=l.foldl goE x
theorem zhG (x:ES) (l:List (List Int)) (ys:List Int):yk x (l++[ys])=goE (yk x l) ys:=by unfold yk;rw [List.foldl_append];rfl
theorem zdT {x:ES} (h:OkE x):∀l:List (List Int),OkE (yk x l):=by
 intro l
 induction l generalizing x with
 | nil=>exact h
 | cons y l ih=>exact ih (h.take _ _ _ _)
def jY (E:Nat) (bd:Int) (x:ES) (W:World):Prop:=∃pc:Array Value,pc.size=24∧At W E 98 (qU x.on x.pn x.ps pc x.m x.st bd)∧zaE x.on W (E+1) x.r (.agg pc)∧(x.on=false→pc=ZPC)
theorem jY.next {E:Nat} {bd:Int} {x y:ES} {pc:Array Value} {W W':World} (hr:zaE x.on W (E+1) x.r (.agg pc)) (hz:x.on=false→pc=ZPC) (hlt:E+1≤W.heap.size) (k:zD [E] W W') (h:zfH E bd x pc y W W'):jY E bd y W':=by
 obtain ⟨pc', hs,ha,(⟨e0,e1,e2⟩|⟨e,ho⟩)⟩:=h
 ·subst e0
  exact ⟨_,hs,ha,fun ho=>by rw [e1];exact (hr (by rw [←e2];exact ho)).touch k (fun q hq=>by simp at hq;omega),fun ho=>hz (by rw [←e2];exact ho)⟩
 ·exact ⟨pc', hs,ha,fun _=>ho.base hlt,fun hf=>by rw [e] at hf;cases hf⟩
def ApE (E r:Nat) (W:World):Prop:=∀i A n c,W.cell? ⟨E,i,none⟩=some (.slice A n c)→0<n→∀o,A≠some ⟨r,o,none⟩
theorem zat {on:Bool} {pn ps:Int} {pc:Array Value} {m st bd:Int} (hp:pc.size=24) {i:Nat} {A:Option Addr} {n c:Nat} (h:(qU on pn ps pc m st bd)[i]?=some (.slice A n c)):∃j,i=3+j∧pc[j]?=some (.slice A n c):=by
 by_cases h1:i<3
 ·rw [Zq hp i h1] at h
  match i,h with
  | 0,h=>simp at h
  | 1,h=>simp at h
  | 2,h=>simp at h
  | i+3,h=>omega
 ·obtain ⟨j,rfl⟩:∃j,i=3+j:=⟨i-3,by omega⟩
  by_cases h2:j<24
  ·rw [vH hp j h2] at h
   exact ⟨j,rfl,h⟩
  ·obtain ⟨k,rfl⟩:∃k,j=24+k:=⟨j-24,by omega⟩
   rw [show 3+(24+k)=27+k by omega,yT hp k] at h
   match k,h with
   | 0,h=>simp at h
   | 1,h=>simp at h
   | 2,h=>simp at h
   | 3,h=>simp at h
   | 4,h=>simp at h
   | k+5,h=>simp at h
theorem QT {n:Nat} {A0:Option Addr} {c0:Nat} {A1:Option Addr} {m1 c1:Nat} {B0:Option Addr} {d0:Nat} {B1:Option Addr} {k1 d1:Nat} {a b c d:Num} {pc:Array Value} (e:Value.agg pc=j6 n A0 c0 A1 m1 c1 B0 d0 B1 k1 d1 a b c d) {j:Nat} {A:Option Addr} {m q:Nat} (h:pc[j]?=some (.slice A m q)):(A=A0∧m=n)∨(A=A1∧m=m1)∨(A=B0∧m=n)∨(A=B1∧m=k1):=by
 unfold j6 at e;injection e with e;subst e
 match j,h with
 | 0,h=>simp at h;exact .inl ⟨h.1.symm,h.2.1.symm⟩
 | 1,h=>simp at h
 | 2,h=>simp at h
 | 3,h=>simp at h;exact .inr (.inl ⟨h.1.symm,h.2.1.symm⟩)
 | 4,h=>simp at h;exact .inr (.inr (.inl ⟨h.1.symm,h.2.1.symm⟩))
 | 5,h=>simp at h
 | 6,h=>simp at h
 | 7,h=>simp at h;exact .inr (.inr (.inr ⟨h.1.symm,h.2.1.symm⟩))
 | 8,h=>simp at h
 | 9,h=>simp at h
 | 10,h=>simp at h
 | 11,h=>simp at h
 | 12,h=>simp at h
 | 13,h=>simp at h
 | 14,h=>simp at h
 | 15,h=>simp at h
 | 16,h=>simp at h
 | 17,h=>simp at h
 | 18,h=>simp at h
 | 19,h=>simp at h
 | 20,h=>simp at h
 | 21,h=>simp at h
 | 22,h=>simp at h
 | 23,h=>simp at h
 | j+24,h=>simp at h
theorem ApE.next {E:Nat} {bd:Int} {x y:ES} {pc:Array Value} {W W':World} (hp:pc.size=24) (hA:At W E 98 (qU x.on x.pn x.ps pc x.m x.st bd)) (h:zfH E bd x pc y W W') {r:Nat} (hr:r<W.heap.size) (k:ApE E r W):ApE E r W':=by
 obtain ⟨pc', hs,ha,h⟩:=h;intro i A n c hc hn o e;rw [ha.cell] at hc;obtain ⟨j,rfl,hj⟩:=zat hs hc;rcases h with ⟨rfl,_⟩|⟨_,ho⟩
 ·refine k (3+j) A n c ?_ hn o e
  have hl:j<24:=by rw [←hp];exact (Array.getElem?_eq_some_iff.1 hj).1
  rw [hA.cell,vH hp j hl];exact hj
 ·obtain ⟨_,A0,c0,A1,m1,c1,B0,d0,B1,k1,d1,ep,n0,n1,n2,n3,f0,f1,f2,f3⟩:=ho
  rcases QT ep hj with ⟨rfl,_⟩|⟨rfl,_⟩|⟨rfl,_⟩|⟨rfl,_⟩
  ·have:=f0 r o e;omega
  ·have:=f1 r o e;omega
  ·have:=f2 r o e;omega
  ·have:=f3 r o e;omega
def StK (E:Nat) (bd:Int) (x0:ES) (b1 b2:Nat) (A:Option Addr) (n c:Nat) (xs:List Int) (s:List (List Int)) (W:World):Prop :=
 Tab W∧At W b1 26 #[.pointer (some ⟨E,0,none⟩)]∧At W b2 41 #[.slice A n c]∧qt W A n c xs∧jY E bd (yk x0 s) W
def StY (E:Nat) (bd:Int) (x0:ES) (xs:List Int) (s:List (List Int)) (W0:World) (args:Array Value) (s':List (List Int)) (W1:World):Prop :=
 ∃(ys:List Int) (u:Value),s'=s++[ys]∧s' <+: qD xs∧yN ys=0∧zD [E] W0 W1∧KeepsFrom 0 W0 W1∧jY E bd (yk x0 s') W1∧args=#[u,.int .i64 (yi (yk x0 s) (ys.getD 2 0) (ZW ys) (ys.getD 3 0) (dL ys))]∧jt W1 W0.heap.size (JA (yk x0 s) (ys.getD 2 0) (ZW ys) (ys.getD 3 0) (dL ys)) u∧∀r,r<W0.heap.size→ApE E r W0→ApE E r W1
theorem StY.size {E:Nat} {bd:Int} {x0:ES} {xs:List Int}:∀s W0 args s' W1,StY E bd x0 xs s W0 args s' W1→args.size=2:=by
 rintro s W0 args s' W1 ⟨ys,u,_,_,_,_,_,_,rfl,_,_⟩;rfl
def Vh (b1 b2:Nat):Value:=.func (.func 60) #[] #[.pointer (some ⟨b1,0,none⟩),.pointer (some ⟨b2,0,none⟩)]
theorem zjA (args:Array Value) (W:World):(callFunc 94 args).run Tryz.prog W=.ok (.enter 94 args) W:=enters_of Tryz.func94 (by kernel_rfl) rfl args W
theorem zcm (args:Array Value) (W:World):(callFunc 60 args).run Tryz.prog W=.ok (.enter 60 args) W:=enters_of Tryz.func60 (by kernel_rfl) rfl args W
theorem Qo (E:Nat) (A:Option Addr) (n c:Nat) (w:World):Calls Tryz.prog 27 #[.pointer (some ⟨E,0,none⟩),.slice A n c] w fun e w'=>e=.returned (Vh w.heap.size (w.heap.size+1))∧(w.alloc (.cells #[.pointer (some ⟨E,0,none⟩)] 26)).alloc (.cells #[.slice A n c] 41)=w':=by
 go_enter Tryz.func27,Tryz.ntmps27;go_wp2;go_ret;exact ⟨rfl,rfl⟩
theorem V9 (m:Nat) (E:Nat) (bd:Int) (x0:ES) (hx0:OkE x0) (b1 b2:Nat) (A:Option Addr) (n c:Nat) (xs:List Int) (hn:n≤10000) (hB:IsB xs) :
  zlG Fence.wide (m+9) Tryz.prog 60 #[.pointer (some ⟨b1,0,none⟩),.pointer (some ⟨b2,0,none⟩)] (fun s W=>StK E bd x0 b1 b2 A n c xs s W) ([]:List (List Int)) (StY E bd x0 xs) (fun s=>s=qD xs) (fun _ W W'=>Below W.heap.size W W'):=by
 intro lp J V hJ hJg hY h0;have HJ:=za hJ;have HG:=za hJg;have HY:=za hY;have HB:=za hB;have hu:=Tryz.underlying47;have hu1:=Tryz.underlying49;have hK0:=hJ _ _ _ (h0 _ (Nat.le_refl _));have q1:=(hK0.2.1.alloc (.cells #[.func (.yield lp) #[] #[]] 127)).one;have q2:=((hK0.2.2.1.alloc (.cells #[.func (.yield lp) #[] #[]] 127)).alloc (.cells #[.func (.func 40) #[.pointer (some ⟨E,0,none⟩)] #[]] 110)).one
 have H0:=za h0;clear hJ hY hB hJg hK0 h0;refine callsIn_of_wp_marks Tryz.func60 rfl trivial ?_ rfl;simp only [Tryz.ntmps60,List.size_toArray,List.length_cons,List.length_nil,Nat.reduceAdd,Nat.reduceSub,Array.replicate_succ,Array.replicate_zero,List.push_toArray,List.append_toArray,List.nil_append,List.cons_append];gi_wp2_with fail;refine ⟨trivial,(zw (m+8) (zeM A n c _)).mono ?_⟩;rintro e w1 ⟨rfl,rfl⟩
 have C2:=za (show At (((V.alloc (.cells #[.func (.yield lp) #[] #[]] 127)).alloc (.cells #[.func (.func 40) #[.pointer (some ⟨E,0,none⟩)] #[]] 110)).alloc (.cells #[.slice A n c] 41)) (V.heap.size+2) 41 #[.slice A n c] from At.new' (by simp));have C1:=za ((show At ((V.alloc (.cells #[.func (.yield lp) #[] #[]] 127)).alloc (.cells #[.func (.func 40) #[.pointer (some ⟨E,0,none⟩)] #[]] 110)) (V.heap.size+1) 110 #[.func (.func 40) #[.pointer (some ⟨E,0,none⟩)] #[]] from At.new' (by simp)).alloc (.cells #[.slice A n c] 41))
 have C0:=za (((At.new V 127 #[.func (.yield lp) #[] #[]]).alloc (.cells #[.func (.func 40) #[.pointer (some ⟨E,0,none⟩)] #[]] 110)).alloc (.cells #[.slice A n c] 41));have BB:=za (zg (zg (zg (Below.refl _ V) (.cells #[.func (.yield lp) #[] #[]] 127)) (.cells #[.func (.func 40) #[.pointer (some ⟨E,0,none⟩)] #[]] 110)) (.cells #[.slice A n c] 41));clear q1 q2;unfold zfm;gi_wp2_with fail;obtain ⟨W0,hW0⟩:=zc ((((V.alloc (.cells #[.func (.yield lp) #[] #[]] 127)).alloc (.cells #[.func (.func 40) #[.pointer (some ⟨E,0,none⟩)] #[]] 110)).alloc (.cells #[.slice A n c] 41)))
 have hsz:W0.heap.size=V.heap.size+3:=by rw [←hW0];simp
 rw [hW0] at C0 C1 C2 BB ⊢;clear hW0;obtain ⟨g,hg⟩:=zc (V.heap.size);obtain ⟨NN,hNN⟩:∃NN,NN=W0.heap.size+2:=⟨_,rfl⟩
 have HJ0:=za (HG.out NN _ _ _ none (H0.out NN (by omega)) (zN BB.out) (fun r e=>by cases e));rw [hg] at C0 C1 C2 hsz HG BB ⊢
 refine zeC rfl (by omega) (gf:=94) (lb:=#[.pointer (some ⟨g+1+1,0,none⟩)]) rfl trivial zjA
  (zh2 (m+6) (g+2) A n c xs hn HB.out) (fun s W0 args s' W1 h=>qO h.1) (fun s W W' h=>qO h) (fun s W0 args s' W1 h=>(FrY.size _ _ _ _ _ h).trans rfl)
  (fun s W=>J NN s W∧At W g 127 #[.func (.yield lp) #[] #[]]∧At W (g+1) 110 #[.func (.func 40) #[.pointer (some ⟨E,0,none⟩)] #[]]∧At W (g+2) 41 #[.slice A n c])
  (fun s W h=>⟨(HJ.out _ _ _ h.1).1,h.2.2.2,(HJ.out _ _ _ h.1).2.2.2.1⟩)
  (fun s W W' row h hgr hr=>⟨HG.out _ _ _ _ row h.1 hgr (fun r e=>⟨by have:=(hr r e).1;omega,by have:=(hr r e).2.1;omega,(hr r e).2.2⟩),h.2.1.grown hgr (fun e=>by have:=(hr _ e.symm).1;omega),h.2.2.1.grown hgr (fun e=>by have:=(hr _ e.symm).1;omega),h.2.2.2.grown hgr (fun e=>by have:=(hr _ e.symm).1;omega)⟩)
  (fun s W W' _ h hb=>⟨HG.out _ _ _ _ none h.1 (zN hb) (fun r e=>by cases e),h.2.1.below hb,h.2.2.1.below hb,h.2.2.2.below hb⟩)
  ⟨HJ0.out,C0.out,C1.out,C2.out⟩ ?round ?done
 case round =>
  rintro l s s' args Wa Wb hl hl2 hsa ⟨hj,c0,c1,c2⟩ ⟨r,hr⟩ ⟨hb,ys,q,A', m', c', rfl,hpre,he,rfl,hi,hf⟩;have hmm:m'≤1000:=by rw [←hi.1];exact zlc ys
  have HGA:=za (show g<Wa.heap.size from c0.lt);have HGH:=za (show g≤Wb.heap.size from by have h1:=c0.lt;have h2:=hb.size;omega);have hlb:m+9-1-1=m+7:=by omega
  rw [hlb];have HP:=za hpre;have HE:=za he;obtain ⟨fk,hfk⟩:∃x,ys.getD 2 0=x:=⟨_,rfl⟩
  obtain ⟨fs,hfs⟩:∃x,ZW ys=x:=⟨_,rfl⟩
  obtain ⟨fn,hfn⟩:∃x,ys.getD 3 0=x:=⟨_,rfl⟩
  obtain ⟨fl,hfl⟩:∃x,dL ys=x:=⟨_,rfl⟩
  rw [hfl] at hi;rw [hfk,hfs,hfn];obtain ⟨o47,ho47⟩:∃o:Obj,o=.cells #[fk,fs,fn,.slice A' m' c'] 47:=⟨_,rfl⟩
  have D0:=za (show At (Wb.alloc (.cells #[fk,fs,fn,.slice A' m' c'] 47)) Wb.heap.size 47 #[fk,fs,fn,.slice A' m' c'] from At.new _ _ _);have hbb:=zg hb (.cells #[fk,fs,fn,.slice A' m' c'] 47);have HJ1:=za (HG.out _ _ _ _ none hj (zN hbb) (fun r e=>by cases e));have D1:=za (c0.below hbb);have D2:=za (c1.below hbb);have D3:=za (c2.below hbb);have HI:=za (hi.below (zg (Below.refl _ Wb) (.cells #[fk,fs,fn,.slice A' m' c'] 47)))
  have hfd:∀b o,A'=some ⟨b,o,none⟩→Wa.heap.size≤b:=hf;clear hj c0 c1 c2 hi hf hr hpre he ho47 o47;unfold qV;gi_wp2_with fail;refine ⟨qO (zg (Below.refl _ Wb) _),fun W3 hgr ho hlr=>?_⟩;have hrow:∀r,some l=some r→∃o:Obj,(Wb.alloc (.cells #[fk,fs,fn,.slice A' m' c'] 47)).heap[r]?=some o∧o.isCells=false:=fun r e=>by cases e;exact ho
  replace HJ1:=za (HG.out _ _ _ _ (some l) HJ1.out hgr (fun r e=>by cases e;exact ⟨by omega,by omega,ho⟩));replace D0:=za (qf D0.out hgr hrow);replace D1:=za (qf D1.out hgr hrow);replace D2:=za (qf D2.out hgr hrow);replace D3:=za (qf D3.out hgr hrow)
  replace HI:=za (HI.out.keep (fun b i v hv=>by
   have hbl:=World.block_lt_of_cell? _ ⟨b,i,none⟩ hv
   rw [World.cell?_of_block (a:=⟨b,i,none⟩) (hgr.block b hbl (fun e=>by
    obtain ⟨o,h1,h2⟩:=hrow b e.symm;have h3:=hv;unfold World.cell? at h3;rw [h1] at h3;cases o<;>simp_all [Obj.isCells]))]
   exact hv))
  obtain ⟨h,hh⟩:=zc (Wb.heap.size);rw [hh] at D0;rw [hh];have HNW:=za (show NN≤W3.heap.size from by have h1:=hgr.size;have h2:=hbb.size;omega);clear hgr ho hrow hb hbb;obtain ⟨pc,hpc,hE,hO,hZ⟩:=(HJ.out _ _ _ HJ1.out).2.2.2.2;have HEA:=za hE;have HOO:=za hO;have hEl:=hE.lt;clear hE hO;gi_wp2_with fail;have hEg:E<g:=by rw [←hg];obtain ⟨_,_,a,_⟩:=(HJ.out _ _ _ (H0.out _ (Nat.le_refl _))).2.2.2.2;exact a.lt
  have hgh:g≤h:=by rw [←hh];have:=HGH.out;omega
  refine wpIn_region_any (by kernel_rfl) ?_;refine zcD 6 1 (by kernel_rfl) ?_;simp only [List.modify_succ_cons,List.modify_zero_cons,vd,List.push_toArray,List.cons_append,List.nil_append];refine zcD 6 2 (by kernel_rfl) ?_;simp only [List.modify_succ_cons,List.modify_zero_cons,vd,List.push_toArray,List.cons_append,List.nil_append];refine zgM (yp _) [E] 6 (zu.cons (k:=0) (i:=0) rfl (zu.cons (k:=0) (i:=1) rfl (zu.cons (k:=0) (i:=2) rfl (zu.cons (k:=2) (i:=3) rfl (zu.cons (k:=1) (i:=4) rfl (zu.cons (k:=1) (i:=5) rfl (zu.cons (k:=2) (i:=6) rfl (zu.cons (k:=1) (i:=7) rfl zu.nil)))))))) (by kernel_rfl) (by kernel_rfl) (fun c a d v w h=>by cases d<;>exact h) ?_
  obtain ⟨d0,d1,d2,d3⟩:=D0.out.four;have e1:=D1.out.one;have e2:=D2.out.one;have kd0:=fun x=>But.cell (G:=[E]) d0 (by simp;omega) x;have kd1:=fun x=>But.cell (G:=[E]) d1 (by simp;omega) x;have kd2:=fun x=>But.cell (G:=[E]) d2 (by simp;omega) x;have kd3:=fun x=>But.cell (G:=[E]) d3 (by simp;omega) x;have ke1:=fun x=>But.cell (G:=[E]) e1 (by simp;omega) x;have ke2:=fun x=>But.cell (G:=[E]) e2 (by simp;omega) x
  iterate 3 (refine Qf ?_;go_big_quiet_step (fail);refine wpQuiet_nil ?_)
  clear kd0 kd1 kd2 kd3 ke1 ke2 d0 d1 d2 d3 e1 e2;have hdr:Below W3.heap.size W3 W3.drew:=⟨rfl,rfl,rfl,Nat.le_refl _,fun _ _=>rfl⟩
  refine zcJ (yp _) rfl rfl (fun K hK=>?_);go_simp;refine (zfr E bd (yk x0 s) (zdT hx0 s) pc hpc fk fs fn A' m' c' fl W3.drew (HEA.out.below hdr) (fun on=>(HOO.out on).below hdr) (HI.out.below hdr) (fun q o e=>by have:=hfd q o e;have:=HGA.out;omega) hmm).mono ?_;rintro e W4 ⟨⟨u,rfl,ho⟩,ht,hp⟩;refine hK _ _ (zI ⟨ht.size,fun k hk hn=>ht.block k hk hn⟩) ?_;clear hK K;have hrun:yk x0 (s++[ys])=zaJ (yk x0 s) fk fs fn fl:=by rw [zhG];unfold goE;rw [hfk,hfs,hfn,hfl]
  have ht3:zD [E] W3 W4:=⟨ht.os,ht.tape,ht.output,ht.size,fun k hk hn=>ht.block k hk hn⟩
  have hkf0:KeepsFrom 0 W3 W4:=⟨ht3.size,fun k o _ h1 h2=>by
   by_cases e:k=E
   ·subst e
    rw [show W3.heap[k]?=_ from HEA.out] at h1;cases h1;cases h2
   ·exact (ht3.block k (Array.getElem?_eq_some_iff.1 h1).1 (by simp;exact e)).trans h1⟩
  have hng:jY E bd (yk x0 (s++[ys])) W4:=by rw [hrun];exact jY.next HOO.out hZ hEl ht3 hp
  have hap:∀r,r<W3.heap.size→ApE E r W3→ApE E r W4:=fun r h1 h2=>ApE.next hpc (HEA.out.below hdr) hp h1 (fun i A n c hc=>h2 i A n c hc);have hy:=za (HY.out NN s (s++[ys]) _ W3 W4 HJ1.out (by have:=HNW.out;omega) ⟨ys,u,rfl,HP.out,HE.out,ht3,hkf0,hng,rfl,by rw [hfk,hfs,hfn,hfl];exact ho,hap⟩);rw [hfk,hfs,hfn,hfl] at hy;obtain ⟨te,hte⟩:∃x,yi (yk x0 s) fk fs fn fl=x:=⟨_,rfl⟩
  rw [hte] at hy ⊢;clear ho ht hp hte;iterate 2 (refine Qg ?_;go_big_quiet_step (fail);refine wpQuiet_nil ?_)
  refine zcK rfl rfl (fun K hK=>?_);have hlc:m+9-3=m+6:=by omega
  rw [hlc] at hy;obtain ⟨gf,tm,asg,bdy,hyy,hR⟩:=hy.out;clear hy;go_simp;rw [hg] at hR;refine (id hR:RoundIn (Fence.wide.inRound l) (m+6) Tryz.prog lp gf tm asg bdy W4 fun e W'=>e=.returned (.bool true)∧J NN (s++[ys]) W'∧KeepsFrom g W4 W'∧∀k,g≤k→k<NN→W'.heap[k]?=W4.heap[k]?).mono ?_;rintro e W5 ⟨rfl,hJ5,hk5,hs5⟩;refine hK _ _ ?_;clear hK K;refine Qg ?_;go_big_quiet_step (fail)
  refine wpQuiet_nil ?_;refine zdG ?_;have hkf:KeepsFrom W0.heap.size W3 W5:=⟨Nat.le_trans ht3.size hk5.size,fun k o h1 h2 h3=>hk5.same k o (by omega) ((ht3.block k (Array.getElem?_eq_some_iff.1 h2).1 (by simp;omega)).trans h2) h3⟩
  have fin:∀ {q:Nat} {t:TypeId} {cs:Array Value},g≤q→q<NN→At W3 q t cs→At W5 q t cs:=fun h1 h2 h3=>(hs5 _ h1 h2).trans ((ht3.block _ h3.lt (by simp;omega)).trans h3);have r1:=za (fin (Nat.le_refl g) (by omega) D1.out);have r2:=za (fin (Nat.le_succ g) (by omega) D2.out);have r3:=za (fin (show g≤g+2 by omega) (by omega) D3.out);have r0:=za hJ5;clear fin hs5 hk5 hJ5 hR hyy
  gi_wp2_with fail;exact ⟨hkf,r0.out,r1.out,r2.out,r3.out⟩
 case done =>
  rintro D s W hD hD2 rfl ⟨hj,c0,c1,c2⟩ hd;have HK:=za hd;have HJ1:=za hj;clear hj hd c0 c1 c2;gi_wp2;refine ⟨by simp,.inl ⟨_,_,rfl,run_takeDeferred HK.out,?_⟩⟩;exact ⟨.tuple #[],by simp [results,Tryz.results60,go_sem],⟨_,rfl⟩,_,_,_,rfl,HG.out _ _ _ _ (some D) HJ1.out (grownBy_putObj' _ _ _) (fun r e=>by cases e;exact ⟨by omega,by omega,_,HK.out,rfl⟩),Below.refl _ _⟩
end
def hU:Int:=16777216
def h1B:List Int:=zK 1 1 1 [0,hU]
def h2B:List Int:=zK 2 2 1 [hU,hU]
def h3B:List Int:=zK 3 3 1 [hU,hU,3*hU]
def hB:List Int:=h1B++(h2B++(h3B++[]))
def hE0:ES:=⟨false,0,0,Jt,0,0⟩
theorem zkl:zQ 1 1 1 [0,hU]=true∧zQ 2 2 1 [hU,hU]=true∧zQ 3 3 1 [hU,hU,3*hU]=true:=by decide +kernel
theorem zaV:qD hB=[h1B,h2B,h3B]:=by decide +kernel
def zdv (x:ES) (ys:List Int):Int:=yi x (ys.getD 2 0) (ZW ys) (ys.getD 3 0) (dL ys)
def zaO (x:ES) (ys:List Int):zeA:=JA x (ys.getD 2 0) (ZW ys) (ys.getD 3 0) (dL ys)
theorem zcc:zdv (yk hE0 []) h1B=0∧zdv (yk hE0 [h1B]) h2B=0∧zdv (yk hE0 [h1B,h2B]) h3B=0:=by decide +kernel
theorem zcb:(zaO (yk hE0 []) h1B).h=33∧(zaO (yk hE0 [h1B]) h2B).h=33∧(zaO (yk hE0 [h1B,h2B]) h3B).h=33:=by decide +kernel
theorem zjo:(yk hE0 [h1B,h2B,h3B]).on=true∧(yk hE0 [h1B,h2B,h3B]).r.n=1∧(yk hE0 [h1B,h2B,h3B]).r.x.map (fun a=>(a.v,a.l,a.h,a.bad))=[(33554433,33554430,33554433,false)]:=by decide +kernel
theorem zgs:OkE hE0:=⟨⟨by decide,by decide⟩,fun _=>⟨rfl,rfl⟩,fun h=>by cases h⟩
theorem zh0:Js 33554433 33554430 33554433 false=true∧lt2 (hi (sz 33554430) (sz 1)) (lo (sz 33554430) (sz 1)) (hi (sz 2) (sz 16777216)) (lo (sz 2) (sz 16777216))=true∧lt2 (hi (sz 2) (sz 16777216)) (lo (sz 2) (sz 16777216)) (hi (sz 33554433) (sz 1)) (lo (sz 33554433) (sz 1))=true:=by decide +kernel
end Go.Proofs.YtcoiklclbljjeaaGreatDoor.L
