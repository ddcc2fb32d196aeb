/- Lemmas of the card's proof. -/
import Derived.Deep.Slices
import Derived.Test.YtcoiklclbljjeaaGreatDoorM40
set_option linter.unusedVariables false
set_option linter.unusedSimpArgs false
set_option maxRecDepth 100000
set_option maxHeartbeats 16000000
namespace Go.Proofs.YtcoiklclbljjeaaGreatDoor.L
open Go.RowKit
section
open Go.ChangeShapes Go.WideShapes Go.Deep
structure zcG {α:Type} (P:Program) (t:TypeId) (K:World→α→List Value→Prop):Prop where
 op:∀ {H:Type} {enc:TypeId×Value→H} {w:World} {base:Nat} {spare:Nat→Bool} {held:Bool} {n:Nat} {cs:List Value} {y:DataW H×List MemPlace},
  DataW.trod enc P w base spare held n t cs=some y→∃x,K w x cs
def zgN (k:IntKind) (_:World) (x:Int) (cs:List Value):Prop:=cs=[.int k x]∧(Lit.int k x).wf=true
structure SL (α:Type) where
 A:Option Addr
 c:Nat
 xs:List α
def KSl {α:Type} (sz:Nat) (K:World→α→List Value→Prop) (w:World) (s:SL α) (cs:List Value):Prop :=
 cs=[.slice s.A s.xs.length s.c]∧s.xs.length≤s.c∧(0<s.xs.length→∃b o,s.A=some ⟨b,o,none⟩∧∀i x,s.xs[i]?=some x→∃cs', cs'.length=sz∧K w x cs'∧∀j u,cs'[j]?=some u→w.cell? ⟨b,o+i*sz+j,none⟩=some u)∧(s.A=none→s.c=0)
def zhr {α β:Type} (K:World→α→List Value→Prop) (K':World→β→List Value→Prop) (w:World) (p:α×β) (cs:List Value):Prop:=∃a b,cs=a++b∧K w p.1 a∧K' w p.2 b
theorem Qx {P:Program} {t:TypeId} {k:IntKind} (h:P.underlying t=some (.int k)):zcG P t (zgN k):=⟨by
 intro H enc w base spare held n cs y hy;obtain ⟨x,rfl,_,hx⟩:=DataW.trod_int h hy;exact ⟨x,rfl,hx⟩⟩
theorem zd5 {α:Type} {p:Nat→α→Prop} (n:Nat) (h:∀i,i<n→∃x,p i x):∃l:List α,l.length=n∧∀(i:Nat) x,l[i]?=some x→p i x:=by
 induction n with
 | zero=>exact ⟨[],rfl,fun i x hx=>by simp at hx⟩
 | succ n ih =>
  obtain ⟨l,hl,hp⟩:=ih (fun i hi=>h i (by omega));obtain ⟨x,hx⟩:=h n (by omega);refine ⟨l++[x],by simp [hl],fun i y hy=>?_⟩
  by_cases hi:i<n
  ·rw [List.getElem?_append_left (by omega)] at hy
   exact hp i y hy
  ·rw [List.getElem?_append_right (by omega)] at hy
   by_cases e:i=n
   ·subst e
    rw [hl,Nat.sub_self] at hy;simp at hy;subst hy;exact hx
   ·rw [List.getElem?_eq_none (by simp;omega)] at hy
    cases hy
theorem zjV (b o n:Nat):(⟨b,o,none⟩:Addr).add n=⟨b,o+n,none⟩:=by unfold Addr.add;split<;>simp_all
theorem JI {α:Type} {P:Program} {t e:TypeId} {sz:Nat} {K:World→α→List Value→Prop} (ht:P.underlying t=some (.slice e)) (hs:P.cellsOf e=sz) (h0:0<sz) (hd:zcG P e K):zcG P t (KSl sz K):=⟨by
 intro H enc w base spare held n cs y hy;rcases open_slice ht hy with ⟨rfl,_⟩|⟨a,len,cap,m,n', D,Pl,rfl,hb,hl,hm,hmm,_,hx⟩
 ·exact ⟨⟨none,0,[]⟩,rfl,Nat.le_refl _,fun h=>(by simp at h),fun _=>rfl⟩
 ·have hlm:len≤m:=by rw [hmm];split<;>omega
  obtain ⟨l,hlen,hp⟩:=zd5 (p:=fun i x=>∃cs', w.cells? base (a.add (i*P.cellsOf e)) (P.cellsOf e)=some cs'∧K w x cs') len (fun i hi=>by
   obtain ⟨cs', h1,h2⟩:=hx i (by omega);obtain ⟨x,hK⟩:=hd.op h2;exact ⟨x,cs', h1,hK⟩)
  refine ⟨⟨some a,cap,l⟩,by rw [hlen],by show l.length≤cap;omega,fun hpos=>?_,fun h=>(by cases h)⟩;have hpos:0<l.length:=hpos
  have hsp:a.spot=none:=by
   obtain ⟨cs', h1,_⟩:=hp 0 l[0] (List.getElem?_eq_getElem hpos);obtain ⟨_,hln,hcell⟩:=World.cells?_some h1;have hc:=hcell 0 (by omega);rw [Nat.zero_mul] at hc;have e1:(a.add 0).add 0=a:=rfl;rw [e1,List.getElem?_eq_getElem (by omega)] at hc;unfold World.cell? at hc
   split at hc
   ·split at hc
    ·cases hc
    ·rename_i h;simpa using h
   ·cases hc
  obtain ⟨b,o,sp⟩:=a;obtain rfl:sp=none:=hsp;refine ⟨b,o,rfl,fun i x hi=>?_⟩;obtain ⟨cs', h1,h2⟩:=hp i x hi;obtain ⟨_,hln,hcell⟩:=World.cells?_some h1;refine ⟨cs', by rw [hln,hs],h2,fun j u hj=>?_⟩
  have hj':j<P.cellsOf e:=by
   obtain ⟨h3,_⟩:=List.getElem?_eq_some_iff.1 hj;omega
  have h4:=hcell j hj';rw [zjV,zjV,hs,hj] at h4;exact h4⟩
structure zbx {α:Type} (P:Program) (fs:List Field) (off tot:Nat) (K:World→α→List Value→Prop):Prop where
 op:∀ {H:Type} {enc:TypeId×Value→H} {w:World} {base:Nat} {spare:Nat→Bool} {held:Bool} {n:Nat} {cs:List Value},
  cs.length=tot→(∀(i:Nat) (f:Field),fs[i]?=some f→∃y,DataW.trod enc P w base spare held n f.type ((cs.drop f.offset).take (P.cellsOf f.type))=some y)→∃x,K w x (cs.drop off)
theorem zkp {α:Type} {P:Program} {f:Field} {off tot:Nat} {K:World→α→List Value→Prop} (ho:f.offset=off) (hc:off+P.cellsOf f.type=tot) (hd:zcG P f.type K):zbx P [f] off tot K:=⟨by
 intro H enc w base spare held n cs hl h;obtain ⟨y,hy⟩:=h 0 f rfl;rw [ho,List.take_of_length_le (by rw [List.length_drop];omega)] at hy;exact hd.op hy⟩
theorem zei {α β:Type} {P:Program} {f:Field} {rest:List Field} {off m tot:Nat} {K:World→α→List Value→Prop} {K':World→β→List Value→Prop} (ho:f.offset=off) (hm:P.cellsOf f.type=m) (hd:zcG P f.type K) (hr:zbx P rest (off+m) tot K') :
  zbx P (f::rest) off tot (zhr K K'):=⟨by
 intro H enc w base spare held n cs hl h;obtain ⟨y,hy⟩:=h 0 f rfl;rw [ho,hm] at hy;obtain ⟨x,hx⟩:=hd.op hy;obtain ⟨x', hx'⟩:=hr.op hl (fun i f' hi=>h (i+1) f' hi);refine ⟨(x,x'),_,_,?_,hx,hx'⟩;rw [←List.drop_drop,List.take_append_drop]⟩
theorem zdY {α:Type} {P:Program} {t:TypeId} {fs:Array Field} {K:World→α→List Value→Prop} (ht:P.underlying t=some (.struct fs)) (hf:zbx P fs.toList 0 (P.cellsOf t) K):zcG P t K:=⟨by
 intro H enc w base spare held n cs y hy;obtain ⟨xs,n', rfl,_,hl,hxl,hx⟩:=DataW.trod_struct ht hy
 have:=hf.op (enc:=enc) (w:=w) (base:=base) (spare:=spare) (held:=held) (n:=n') (cs:=cs) hl (fun i f hi=>by
  rw [Array.getElem?_toList] at hi
  have hi':i<xs.length:=by
   rw [hxl];exact (Array.getElem?_eq_some_iff.1 hi).1
  exact ⟨xs[i],by rw [hx i f hi,List.getElem?_eq_getElem hi']⟩)
 simpa using this⟩
section
variable {α:Type} {H:Type} {enc:TypeId×Value→H} {P:Program} {w:World} {base b0:Nat} {spare:Nat→Bool} {held:Bool} {r:Reach} {t e:TypeId} {v:Value} {y:DataW H} {p:List MemPlace} {sz:Nat} {K:World→α→List Value→Prop}
theorem zdC (hO:zcG P t (KSl sz K)) (ht:P.underlying t=some (.slice e)) (hv:Value.okWide P w r b0 t v) (h:DataW.Trod enc P w base spare held t v y p):∃s:SL α,v=.slice s.A s.xs.length s.c∧KSl sz K w s [v]:=by
 obtain ⟨a,len,cap,rfl⟩:=okWide_slice ht hv;obtain ⟨fuel,hf⟩:=h;obtain ⟨s,hK⟩:=hO.op hf;have e:=hK.1;simp [Value.cells] at e;obtain ⟨e1,e2,e3⟩:=e;refine ⟨s,by rw [e1,e2,e3],?_⟩
 simpa [Value.cells] using hK
end
theorem zlh {x:Int} (h:(Lit.int .u8 x).wf=true):0≤x∧x<256:=by
 simp only [Lit.wf,Bool.and_eq_true,decide_eq_true_eq] at h;exact ⟨h.1,Int.lt_add_one_of_le h.2⟩
theorem KSl.bytes {w:World} {s:SL Int} {cs:List Value} (h:KSl 1 (zgN .u8) w s cs):qt w s.A s.xs.length s.c s.xs∧IsB s.xs :=
 ⟨⟨rfl,h.2.1,fun hn=>by
  obtain ⟨b,o,e,hc⟩:=h.2.2.1 hn;refine ⟨b,o,e,fun i x hx=>?_⟩;obtain ⟨cs', _,⟨rfl,_⟩,hu⟩:=hc i x hx;have:=hu 0 _ rfl
  rwa [Nat.mul_one] at this⟩,fun x hx=>by
  obtain ⟨i,hi,rfl⟩:=List.mem_iff_getElem.1 hx;obtain ⟨b,o,e,hc⟩:=h.2.2.1 (by omega);obtain ⟨cs', _,⟨_,hw⟩,_⟩:=hc i _ (List.getElem?_eq_getElem hi);exact zlh hw⟩
theorem KSl.ints {w:World} {s:SL Int} {cs:List Value} (h:KSl 1 (zgN .i64) w s cs):zU w s.A s.xs.length s.c s.xs :=
 ⟨rfl,h.2.1,fun hn=>by
  obtain ⟨b,o,e,hc⟩:=h.2.2.1 hn;refine ⟨b,o,e,fun i x hx=>?_⟩;obtain ⟨cs', _,⟨rfl,_⟩,hu⟩:=hc i x hx;have:=hu 0 _ rfl
  rwa [Nat.mul_one] at this⟩
end
section
open Go.ChangeShapes Go.WideShapes Go.Deep
theorem KSl.frames {w:World} {s:SL (Int×Int×Int×SL Int)} {cs:List Value} (h:KSl 4 (zhr (zgN .i64) (zhr (zgN .i64) (zhr (zgN .i64) (KSl 1 (zgN .i64))))) w s cs) :
  zdF w s.A s.xs.length s.c (s.xs.map fun q=>⟨q.1,q.2.1,q.2.2.1,q.2.2.2.A,q.2.2.2.xs.length,q.2.2.2.c,q.2.2.2.xs⟩) :=
 ⟨by simp,h.2.1,fun hn=>by
  obtain ⟨b,o,e,hc⟩:=h.2.2.1 hn;refine ⟨b,o,e,fun i f hf=>?_⟩;rw [List.getElem?_map,Option.map_eq_some_iff] at hf;obtain ⟨q,hq,rfl⟩:=hf;obtain ⟨cs', _,⟨a0,r0,rfl,⟨rfl,_⟩,a1,r1,rfl,⟨rfl,_⟩,a2,r2,rfl,⟨rfl,_⟩,hk⟩,hu⟩:=hc i q hq;have hcs:=hk.1;subst hcs;exact ⟨hu 0 _ rfl,hu 1 _ rfl,hu 2 _ rfl,hu 3 _ rfl,hk.ints⟩⟩
end
end Go.Proofs.YtcoiklclbljjeaaGreatDoor.L
