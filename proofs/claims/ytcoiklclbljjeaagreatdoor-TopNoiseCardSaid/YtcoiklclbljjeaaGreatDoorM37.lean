/- Lemmas of the card's proof. -/
import Derived.Test.YtcoiklclbljjeaaGreatDoorM36
set_option linter.unusedVariables false
set_option linter.unusedSimpArgs false
set_option maxRecDepth 100000
set_option maxHeartbeats 16000000
namespace Go.Proofs.YtcoiklclbljjeaaGreatDoor.L
open Go.RowKit
section
attribute [local go_sem] Oper.semAt_some
structure FrR where
 k:Int
 s:Int
 n:Int
 A:Option Addr
 m:Nat
 c:Nat
 l:List Int
def ziE (W:World) (A:Option Addr) (n c:Nat) (L:List FrR):Prop :=
 L.length=n∧n≤c∧(0<n→∃b o,A=some ⟨b,o,none⟩∧∀i f,L[i]?=some f→W.cell? ⟨b,o+i*4,none⟩=some (.int .i64 f.k)∧W.cell? ⟨b,o+i*4+1,none⟩=some (.int .i64 f.s) ∧
  W.cell? ⟨b,o+i*4+2,none⟩=some (.int .i64 f.n)∧W.cell? ⟨b,o+i*4+3,none⟩=some (.slice f.A f.m f.c)∧zU W f.A f.m f.c f.l∧f.m≤1000)
theorem ziE.below {W W':World} {A:Option Addr} {n c:Nat} {L:List FrR} (h:ziE W A n c L) (hb:Below W.heap.size W W'):ziE W' A n c L :=
 ⟨h.1,h.2.1,fun hn=>by
  obtain ⟨b,o,e,h⟩:=h.2.2 hn
  exact ⟨b,o,e,fun i f hf=>by
   obtain ⟨h0,h1,h2,h3,h4,h5⟩:=h i f hf;exact ⟨zR hb _ _ _ h0,zR hb _ _ _ h1,zR hb _ _ _ h2,zR hb _ _ _ h3,h4.below hb,h5⟩⟩⟩
def FrR.ok (f:FrR):Bool:=zQ f.k f.s f.n f.l
def yB (L:List FrR):List Int:=L.flatMap fun f=>zK f.k f.s f.n f.l
theorem vm (k s n:Int) (l:List Int):(zK k s n l).length=12+8*l.length:=by
 have e:∀t:List Int,(t.flatMap fun x=>jh x 8).length=t.length*8:=by
  exact Xbi
 unfold zK y8;rw [List.length_append,List.length_append,List.length_append,jz,jz,e];simp only [List.length_cons,List.length_nil];omega
theorem zgl (L:List FrR) (f:FrR):yB (L++[f])=yB L++zK f.k f.s f.n f.l:=by unfold yB;simp
theorem zd0 {f:FrR} (h:f.ok=true):f.l.length≤32:=by
 unfold FrR.ok zQ at h;simp only [Bool.and_eq_true,decide_eq_true_eq] at h;have:=zdl f.k f.n;omega
theorem zal:∀L:List FrR,L.all FrR.ok=true→(yB L).length≤268*L.length
 | [],_=>Nat.le_refl _
 | f::L,h=>by
  rw [List.all_cons,Bool.and_eq_true] at h;have h1:=zal L h.2;have h2:=zd0 h.1;show ((zK f.k f.s f.n f.l)++yB L).length≤_;rw [List.length_append,vm,List.length_cons];omega
theorem QK {o:Oper} {a:Act} {K:Act→World→Prop} {Q:Exit→Act→World→Prop} {w:World} (s x:Operand)
  (ho:o.op=.call { callee:=.builtin .append,args:=#[s,x],argTypes:=#[41,41] }) (B:Nat) (v:Value) (xs ys:List Int) (A:Option Addr) (n c:Nat) (hs:a.eval s=v) (hown:yF w B v xs)
  (hx:a.eval x=.slice A n c) (hA:0<n) (hy:qt w A n c ys) (hl:xs.length+n≤1000000) (hB:B≤w.heap.size)
  (h:∀v' w', yF w' B v' (xs++ys)→w.grownBy w' v.ownBlock→(v'.ownBlock=v.ownBlock∨v'.ownBlock=some w.heap.size)→K (a.put o.dst v') w'):o.wp Tryz.prog a w K Q:=by
 obtain ⟨i0,hi,hz0,hz1,hz2⟩:=info_parts zgm;obtain ⟨b,o', rfl,hc⟩:=hy.2.2 hA
 obtain ⟨v', w', hr,h2,h3,_,hat⟩:=run_append_own_at (P:=Tryz.prog) w B 41 o.type 5 i0 (.int .u8 0) 1 1 Tryz.underlying41 hi hz0 hz1 hz2 rfl (by decide) v xs.length (xs.map (.int .u8)) hown ⟨b,o', none⟩ n c (ys.map (.int .u8)) (by rw [List.length_map,hy.1,Nat.mul_one])
  (fun j u hj=>by
   rw [List.getElem?_map,Option.map_eq_some_iff] at hj;obtain ⟨y,hy1,rfl⟩:=hj;rw [zjW];exact hc j y hy1) (fun u hu=>by obtain ⟨y,_,rfl⟩:=List.mem_map.1 hu;rfl) (by unfold maxLen;omega) (by omega) hB
 rw [←List.map_append] at h2;unfold Oper.wp execOp;simp only [ho,resolve,invoke,builtin,Sem.run_bind,Sem.run_pure,Result.andThen_ok,List.map_toArray,List.map_cons,List.map_nil,hs,hx,hr];exact h v' w' (by unfold yF;rw [List.length_append,hy.1];exact h2) h3 hat
theorem yF.none (w:World) (B:Nat):yF w B (.slice none 0 0) []:=⟨rfl,.inl (by simp [Value.ownBlock])⟩
theorem zdb (A:Option Addr) (n c:Nat) (L:List FrR) (hn:n≤300) (w:World) (hT:Tab w) (hx:ziE w A n c L) :
  Calls Tryz.prog 26 #[.slice A n c] w fun e w'=>(((L.all FrR.ok=true∧∃v,e=.returned (.tuple #[v,.int .i64 0])∧yF w' w.heap.size v (yB L))∨(L.all FrR.ok=false∧e=.returned (.tuple #[.slice none 0 0,.int .i64 1]))))∧Below w.heap.size w w':=by
 have HX:=za hx;have HT:=za hT;have hLL:=hx.1;clear hx hT;have hu:=Tryz.underlying47;have hu1:=Tryz.underlying82;go_enter Tryz.func26,Tryz.ntmps26;go_wp2_with fail
 go_loopw [4,6,7,8,11] (fun v _ _ _ i wr=>∃j:Nat,j≤n∧i=.int .i64 j∧Hid (yF wr w.heap.size v (yB (L.take j)))∧Hid (Below w.heap.size w wr)∧Hid ((L.take j).all FrR.ok=true)) (fun _ _ _ _ i _=>n-(intOf i).toNat)
 case atStart=>exact ⟨0,by omega,rfl,za (yF.none _ _),za (Below.refl _ _),za rfl⟩
 case round =>
  obtain ⟨j,hj,rfl,HO,HB,HK⟩:=hrel;have hszr:=HB.out.size
  by_cases hlt:j<n
  ·have hltI:(j:Int)<(n:Int):=by omega
   obtain ⟨f,hf⟩:∃f,L[j]?=some f:=⟨_,List.getElem?_eq_getElem (by omega)⟩
   obtain ⟨b,o,rfl,hc⟩:=(HX.out.below HB.out).2.2 (by omega);obtain ⟨x0,x1,x2,x3,hi,hm⟩:=hc j f hf;have HI:=za hi;clear hc hi;have hfo:f.ok=zQ f.k f.s f.n f.l:=rfl;have ht1:L.take (j+1)=L.take j++[f]:=jT hf;have HJ:=za (show yB (L.take (j+1))=yB (L.take j)++zK f.k f.s f.n f.l by rw [ht1,zgl]);have HK1:=za (show f.ok=true→(L.take (j+1)).all FrR.ok=true by intro h;rw [ht1,List.all_append,HK.out];simpa using h)
   have HK0:=za (show f.ok=false→L.all FrR.ok=false by intro h;rw [List.all_eq_false];exact ⟨f,List.mem_of_getElem? hf,by simp [h]⟩);have HL:=za (zal _ HK.out);obtain ⟨k,s,n', Af,mf,cf,l⟩:=f;dsimp only at x0 x1 x2 x3 HI hm hfo HJ;have hle:(zK k s n' l).length=12+8*l.length:=vm _ _ _ _;have hok32:=fun h=>zd0 (f:=⟨k,s,n', Af,mf,cf,l⟩) h;dsimp only at hok32;clear ht1 hf
   have y0:=(At.new wr 47 #[k,s,n', .slice Af mf cf]).four;obtain ⟨y0,y1,y2,y3⟩:=y0;go_wp2_with fail;have HW:=za (zg HB.out (.cells #[k,s,n', .slice Af mf cf] 47));have HI1:=za (HI.out.below (zg (Below.refl _ wr) (.cells #[k,s,n', .slice Af mf cf] 47)));have HO1:=za (YV HO.out (.cells #[k,s,n', .slice Af mf cf] 47));obtain ⟨wa,hwa⟩:=zc (wr.alloc (.cells #[k,s,n', .slice Af mf cf] 47))
   rw [hwa] at HW HI1 HO1 ⊢;clear hwa y0 y1 y2 y3 x0 x1 x2 x3;have hsza:=HW.out.size;cases hok:zQ k s n' l with
   | false =>
    rw [hok] at hfo;refine (zbe k s n' Af mf cf l hm wa HI1.out hok).mono ?_;rintro e w1 ⟨rfl,hb⟩;have HB1:=za (zi HW.out hb);have HF:=za (HK0.out hfo);clear hb hok;go_wp2_with fail;exact bodyPost_ret (v:=.tuple #[.slice none 0 0,.int .i64 1]) (by simp [results,Tryz.results26,go_sem]) rfl ⟨.inr ⟨HF.out,rfl⟩,HB1.out⟩
   | true =>
    rw [hok] at hfo;have h32:=hok32 hfo;refine (VF k s n' Af mf cf l hm wa (HT.out.below HW.out) HI1.out hok).mono ?_;rintro e w1 ⟨v1,rfl,ho,hb⟩;have HB1:=za (zi HW.out hb);have HO2:=za (HO1.out.below hb);obtain ⟨A1,c1,rfl,hby⟩:=Zu ho;have HY:=za hby;have HKn:=za (HK1.out hfo);have hl2:(yB (L.take j)).length≤268*n:=Nat.le_trans HL.out (Nat.mul_le_mul_left _ (by rw [List.length_take];omega))
    obtain ⟨J1,hJ1⟩:=zc (yB (L.take (j+1)));obtain ⟨J0,hJ0⟩:=zc (yB (L.take j));obtain ⟨E0,hE0⟩:=zc (zK k s n' l);rw [hJ1,hJ0,hE0] at HJ;rw [hJ0] at HO2 hl2;rw [hE0] at HY hle;obtain ⟨ne,hne⟩:=zc (E0.length);have hsz1:=HB1.out.size;have hne0:0<ne:=by omega
    have hbig:J0.length+ne≤1000000:=by omega
    rw [hne] at HY;rw [hE0,hne];clear hb ho hby hok hle h32 hok32;go_wp2_with (at_builtin;refine wpList_plain rfl (fun K hK=>?_);refine QK (.tmp 23) (.tmp 24) rfl w.heap.size u4 J0 E0 A1 ne c1 rfl HO2.out rfl hne0 HY.out hbig hsz1 ?_;intro v3 w3 hown hgrow hat;refine hK _ _ ?_;clear hK K;have O3:=za hown;have K3:=za (HB1.out.grown hgrow hsz1 (fun q e=>(World.ownsRow.lt HO2.out q e).1));clear hown hgrow hat)
    rw [←HJ.out,←hJ1] at O3;go_roundw
    case rel=>exact ⟨j+1,by omega,by go_num,O3,K3,HKn⟩
    case measure=>simp [intOf];omega
  ·obtain rfl:n=j:=by omega
   rw [List.take_of_length_le (by omega)] at HO HK;go_wp2_with fail;exact bodyPost_ret (v:=.tuple #[u4,.int .i64 0]) (by simp [results,Tryz.results26,go_sem]) rfl ⟨.inl ⟨HK.out,_,rfl,HO.out⟩,HB.out⟩
end
section
attribute [local go_sem] Oper.semAt_some
def zdF (W:World) (A:Option Addr) (n c:Nat) (L:List FrR):Prop :=
 L.length=n∧n≤c∧(0<n→∃b o,A=some ⟨b,o,none⟩∧∀i f,L[i]?=some f→W.cell? ⟨b,o+i*4,none⟩=some (.int .i64 f.k)∧W.cell? ⟨b,o+i*4+1,none⟩=some (.int .i64 f.s) ∧
  W.cell? ⟨b,o+i*4+2,none⟩=some (.int .i64 f.n)∧W.cell? ⟨b,o+i*4+3,none⟩=some (.slice f.A f.m f.c)∧zU W f.A f.m f.c f.l)
theorem zdF.few {W:World} {A:Option Addr} {n c:Nat} {L:List FrR} (h:zdF W A n c L) (hm:∀f∈L,f.m≤40):ziE W A n c L :=
 ⟨h.1,h.2.1,fun hn=>by
  obtain ⟨b,o,e,h⟩:=h.2.2 hn
  exact ⟨b,o,e,fun i f hf=>by
   obtain ⟨h0,h1,h2,h3,h4⟩:=h i f hf;exact ⟨h0,h1,h2,h3,h4,Nat.le_trans (hm f (List.mem_of_getElem? hf)) (by decide)⟩⟩⟩
def zlg (n:Nat) (L:List FrR) (w:World) (e:Ending) (w':World):Prop:=(∃r,e=.returned (.bool r)∧(r=true→n≤12∧∀f∈L,f.m≤40))∧w=w'
theorem zhT (A:Option Addr) (n c:Nat) (L:List FrR) (w:World) (hx:zdF w A n c L) :
  Calls Tryz.prog 25 #[.slice A n c] w (zlg n L w):=by
 have hu:=Tryz.underlying47;have hu1:=Tryz.underlying82;have hLL:=hx.1;have hnc:=hx.2.1;have HX:=za hx;clear hx;go_enter Tryz.func25,Tryz.ntmps25;go_wp2_with fail
 go_loopw [3] (fun i wr=>∃j:Nat,j≤n∧i=.int .i64 j∧wr=w∧Hid (∀(i:Nat) (f:FrR),i<j→L[i]?=some f→f.m≤40)) (fun i _=>n-(intOf i).toNat)
 case atStart=>exact ⟨0,by omega,rfl,by trivial,za (fun i f h=>by omega)⟩
 case round =>
  obtain ⟨j,hj,rfl,rfl,HJ⟩:=hrel
  by_cases hlt:j<n
  ·have hltI:(j:Int)<(n:Int):=by omega
   by_cases h12:j≤12
   ·have h12I:(j:Int)≤12:=by omega
    obtain ⟨f,hf⟩:∃f,L[j]?=some f:=⟨_,List.getElem?_eq_getElem (by omega)⟩
    obtain ⟨b,o,rfl,hc⟩:=HX.out.2.2 (by omega);obtain ⟨x0,x1,x2,x3,hi⟩:=hc j f hf;have HF:=za hf;have hcj:j<c:=by omega
    obtain ⟨k,s,n', Af,mf,cf,l⟩:=f;dsimp only at x0 x1 x2 x3;clear hc hi hf
    by_cases h40:mf≤40
    ·have h40I:¬(40:Int)<(mf:Int):=by omega
     go_wp2_with fail;go_roundw
     case rel =>
      refine ⟨j+1,by omega,by go_num,by trivial,za (fun i f hi hf=>?_)⟩
      by_cases e:i=j
      ·subst e
       rw [HF.out] at hf;cases hf;exact h40
      ·exact HJ.out i f (by omega) hf
     case measure=>simp [intOf];omega
    ·have h40I:(40:Int)<(mf:Int):=by omega
     go_wp2_with fail;go_ret;exact ⟨⟨_,rfl,fun h=>by cases h⟩,rfl⟩
   ·have h12I:¬(j:Int)≤12:=by omega
    have hn12:¬(n:Int)≤12:=by omega
    go_wp2_with fail;go_ret;exact ⟨⟨_,rfl,fun h=>by simp at h⟩,rfl⟩
  ·obtain rfl:n=j:=by omega
   go_wp2_with fail;go_ret
   exact ⟨⟨_,rfl,fun h=>⟨by simp at h;omega,fun f hf=>by
    obtain ⟨i,hi,e⟩:=List.mem_iff_getElem.1 hf;exact HJ.out i f (by omega) (by rw [List.getElem?_eq_getElem hi,e])⟩⟩,rfl⟩
theorem Vl (A A':Option Addr) (n c n' c':Nat) (xs:List Int) (hn:n≤9223372036854775807) (w:World) (hx:zU w A n c xs) (hy:zU w A' n' c' xs) :
  Calls Tryz.prog 62 #[.slice A n c,.slice A' n' c'] w fun e w'=>e=.returned (.bool true)∧Below w.heap.size w w':=by
 have e:n'=n:=by rw [←hx.1,←hy.1]
 subst e;have hnc:=hx.2.1;have hnc':=hy.2.1;have HX:=za hx;have HY:=za hy;have hl:=hx.1;clear hx hy;go_enter Tryz.func62,Tryz.ntmps62;go_wp2_with fail
 go_loopw [13] (fun i wr=>∃j:Nat,j≤n'∧i=.int .i64 j∧Hid (Below w.heap.size w wr)) (fun i _=>n'-(intOf i).toNat)
 case atStart=>exact ⟨0,by omega,rfl,za (Below.refl _ _)⟩
 case round =>
  obtain ⟨j,hj,rfl,HB⟩:=hrel
  by_cases hlt:j<n'
  ·have hltI:(j:Int)<(n':Int):=by omega
   obtain ⟨x,hx⟩:∃x,xs[j]?=some x:=⟨_,List.getElem?_eq_getElem (by omega)⟩
   obtain ⟨b,o,rfl,hc⟩:=(HX.out.below HB.out).2.2 (by omega);obtain ⟨b', o', rfl,hc'⟩:=(HY.out.below HB.out).2.2 (by omega);have x0:=hc j x hx;have y0:=hc' j x hx;have hcj:j<c:=by omega
   have hcj':j<c':=by omega
   clear hc hc' hx;go_wp2_with fail
   go_quiet (fail)
   have HB2:=za (HB.out.grown (row:=none) ⟨rfl,rfl,rfl,Nat.le_refl _,fun _ _ _=>rfl⟩ HB.out.size (fun r e=>by cases e):Below w.heap.size w (wr.drewN nq));go_wp2_with fail;go_roundw
   case rel=>exact ⟨j+1,by omega,by go_num,HB2⟩
   case measure=>simp [intOf];omega
  ·obtain rfl:n'=j:=by omega
   go_wp2_with fail;go_ret;exact ⟨rfl,HB.out⟩
end
section
open R R.Real
def qK (r c:Nat) (l:List Num) (A:Nat→Nat→R.Real):Prop:=l.length=r*c∧∀i,i<r→∀j,j<c→Enc (l.getD (i*c+j) qe) (A i j)
theorem qK.congr {r c:Nat} {l:List Num} {A B:Nat→Nat→R.Real} (h:qK r c l A) (k:∀i,i<r→∀j,j<c→A i j=B i j):qK r c l B:=⟨h.1,fun i hi j hj=>k i hi j hj▸h.2 i hi j hj⟩
theorem VJ {r c i j:Nat} (hi:i<r) (hj:j<c):i*c+j<r*c:=by
 have:(i+1)*c≤r*c:=Nat.mul_le_mul_right c hi;rw [Nat.add_mul] at this;omega
theorem Ym {α:Type} (c r:Nat) (g:Nat→List α) (h:∀i,i<r→(g i).length=c):((List.range r).flatMap g).length=r*c:=by
 induction r with
 | zero=>simp
 | succ r ih =>
  rw [List.range_succ,List.flatMap_append,List.length_append,ih (fun i hi=>h i (by omega)),Nat.add_mul];simp [h r (by omega)]
theorem zaw {α:Type} (z:α) (c r:Nat) (g:Nat→List α) (h:∀i,i<r→(g i).length=c) {i j:Nat} (hi:i<r) (hj:j<c):((List.range r).flatMap g).getD (i*c+j) z=(g i).getD j z:=by
 induction r with
 | zero=>omega
 | succ r ih =>
  have hl:=Ym c r g (fun i hi=>h i (by omega));rw [List.range_succ,List.flatMap_append,List.getD_eq_getElem?_getD,List.getD_eq_getElem?_getD]
  by_cases e:i=r
  ·subst e
   rw [List.getElem?_append_right (by rw [hl];omega),hl,show i*c+j-i*c=j by omega];simp
  ·rw [List.getElem?_append_left (by rw [hl];exact VJ (by omega) hj),←List.getD_eq_getElem?_getD,ih (fun i hi=>h i (by omega)) (by omega),List.getD_eq_getElem?_getD]
theorem Qm {α:Type} (z:α) (f:Nat→α) {c j:Nat} (hj:j<c):((List.range c).map f).getD j z=f j:=by
 rw [List.getD_eq_getElem?_getD,List.getElem?_map,List.getElem?_range hj];rfl
theorem JZ {r c:Nat} {f:Nat→Nat→Num} {A:Nat→Nat→R.Real} (h:∀i,i<r→∀j,j<c→Enc (f i j) (A i j)):qK r c ((List.range r).flatMap fun i=>(List.range c).map (f i)) A :=
 ⟨Ym c r _ (fun i _=>by simp),fun i hi j hj=>by rw [zaw qe c r _ (fun i _=>by simp) hi hj,Qm _ _ hj];exact h i hi j hj⟩
theorem zgw {c:Nat} {l:List Num} {i j:Nat} (hj:j<c):(qz c l i).getD j qe=l.getD (i*c+j) qe:=by
 unfold qz;rw [List.getD_eq_getElem?_getD,List.getElem?_take_of_lt hj,List.getElem?_drop,List.getD_eq_getElem?_getD]
theorem qK.row {r c:Nat} {l:List Num} {A:Nat→Nat→R.Real} (h:qK r c l A) {i:Nat} (hi:i<r):qN c (qz c l i) (A i):=by
 refine ⟨?_,fun j hj=>by rw [zgw hj];exact h.2 i hi j hj⟩;unfold qz;have:(i+1)*c≤r*c:=Nat.mul_le_mul_right c hi;rw [Nat.add_mul] at this;rw [List.length_take,List.length_drop,h.1];omega
theorem qK.at_ {r c:Nat} {l:List Num} {A:Nat→Nat→R.Real} (h:qK r c l A) {i j:Nat} (hi:i<r) (hj:j<c):Enc (atM c l i j) (A i j):=h.2 i hi j hj
theorem qK.turn {r c:Nat} {l:List Num} {A:Nat→Nat→R.Real} (h:qK r c l A):qK c r (j5 r c l) (fun i j=>A j i):=JZ (f:=fun i j=>atM c l j i) fun i hi j hj=>h.at_ hj hi
theorem qK.mul {r c k:Nat} {l l':List Num} {A B:Nat→Nat→R.Real} (h:qK r c l A) (h':qK c k l' B):qK r k (vK r c k l l') (fun i j=>dot c (A i) (fun m=>B m j)) :=
 JZ (f:=fun i j=>Zf (qz c l i) (qz c (j5 c k l') j)) fun i hi j hj=>(h.row hi).dot (h'.turn.row hj)
theorem qK.apply {r c:Nat} {l xs:List Num} {A:Nat→Nat→R.Real} {f:Nat→R.Real} (h:qK r c l A) (h':qN c xs f):qN r (jO r c l xs) (fun i=>dot c (A i) f) :=
 ⟨by simp [jO],fun i hi=>by unfold jO;rw [Qm _ _ hi];exact (h.row hi).dot h'⟩
theorem qK.adds {r c:Nat} {l l':List Num} {A B:Nat→Nat→R.Real} (h:qK r c l A) (h':qK r c l' B):qK r c (Zg l l') (fun i j=>A i j+B i j) :=
 ⟨by unfold Zg;rw [List.length_map,List.length_zip,h.1,h'.1,Nat.min_self],fun i hi j hj=>by
  have:=VJ hi hj;unfold Zg;rw [zce Num.add (by rw [h.1];exact this) (by rw [h'.1];exact this)];exact (h.2 i hi j hj).add (h'.2 i hi j hj)⟩
theorem qK.subs {r c:Nat} {l l':List Num} {A B:Nat→Nat→R.Real} (h:qK r c l A) (h':qK r c l' B):qK r c (vB l l') (fun i j=>A i j-B i j) :=
 ⟨by unfold vB;rw [List.length_map,List.length_zip,h.1,h'.1,Nat.min_self],fun i hi j hj=>by
  have:=VJ hi hj;unfold vB;rw [zce Num.sub (by rw [h.1];exact this) (by rw [h'.1];exact this)];exact (h.2 i hi j hj).sub (h'.2 i hi j hj)⟩
theorem qK.mir {n:Nat} {l:List Num} {A:Nat→Nat→R.Real} (h:qK n n l A) (hs:∀i,i<n→∀j,j<n→A i j=A j i):qK n n (zjb n l) A :=
 JZ (f:=fun i j=>atM n l (max i j) (min i j)) fun i hi j hj=>by
  by_cases e:j≤i
  ·rw [Nat.max_eq_left e,Nat.min_eq_right e];exact h.at_ hi hj
  ·rw [Nat.max_eq_right (by omega),Nat.min_eq_left (by omega),hs i hi j hj];exact h.at_ hj hi
theorem zeE {n i j:Nat} (hi:i<n) (hj:j<n):(i*n+j)%(n+1)=0∧(i*n+j) / (n+1)<n↔i=j:=by
 constructor
 ·rintro ⟨h,_⟩
  by_cases e:i≤j
  ·have:i*n+j=i*(n+1)+(j-i):=by rw [Nat.mul_add];omega
   rw [this,Nat.mul_add_mod_self_right,Nat.mod_eq_of_lt (by omega)] at h;omega
  ·have:i*n+j=(i-1)*(n+1)+(n+1-(i-j)):=by
    obtain ⟨k,rfl⟩:∃k,i=k+1:=⟨i-1,by omega⟩
    rw [Nat.add_mul,Nat.add_sub_cancel,Nat.mul_add];omega
   rw [this,Nat.mul_add_mod_self_right,Nat.mod_eq_of_lt (by omega)] at h;omega
 ·rintro rfl
  have:i*n+i=i*(n+1):=by rw [Nat.mul_add];omega
  rw [this,Nat.mul_mod_left,Nat.mul_div_cancel _ (by omega)];exact ⟨rfl,hi⟩
theorem zjC (n:Nat):qK n n (Z5 n) Jy:=by
 refine ⟨by simp [Z5,jC,ZC],fun i hi j hj=>?_⟩;have:=VJ hi hj;unfold Z5 jC ZC;rw [JS Num.of _ _ 0 qe (by simpa using this),Qm _ _ this];unfold Jy
 by_cases e:i=j
 ·rw [if_pos ((zeE hi hj).2 e),if_pos e];exact zkq
 ·rw [if_neg (fun h=>e ((zeE hi hj).1 h)),if_neg e];exact zbr
theorem qK.clear {n:Nat} {l:List Num} {A:Nat→Nat→R.Real} (h:qK n n l A):qK n n (Qq n l) (fun i j=>if i<j then 0 else A i j) :=
 JZ (f:=zay n l) fun i hi j hj=>by
  unfold zay
  by_cases e:i<j
  ·rw [if_pos e,if_pos e];exact zbr
  ·rw [if_neg e,if_neg e];exact h.at_ hi hj
def zbW (n:Nat) (l:List Num) (k:Nat):Prop:=(atM n l k k).sign<0
instance (n : Nat) (l : List Num) : DecidablePred (zbW n l) := fun k => Int.decLt _ _
theorem qK.signs {n:Nat} {l:List Num} {A:Nat→Nat→R.Real} (h:qK n n l A):qK n n (zab n l) (fun i j=>if j≤i∧zbW n l j then -(A i j) else A i j) :=
 JZ (f:=zbN n l) fun i hi j hj=>by
  show Enc (if j≤i∧zbW n l j then (atM n l i j).neg else atM n l i j) _
  by_cases e:j≤i∧zbW n l j
  ·rw [if_pos e,if_pos e];exact (h.at_ hi hj).neg
  ·rw [if_neg e,if_neg e];exact h.at_ hi hj
theorem qK.square {n:Nat} {l:List Num} {A:Nat→Nat→R.Real} (h:qK n n l A):qK n n (yj n l) (fun i j=>dot n (A i) (A j)) :=
 ((h.mul h.turn).congr fun i _ j _=>rfl).mir fun i _ j _=>jN _ _ _
theorem qK.turned {n:Nat} {l p q:List Num} {A P Q:Nat→Nat→R.Real} (h:qK n n l A) (hp:qK n n p P) (hq:qK n n q Q)
  (hs:∀i,i<n→∀j,j<n→dot n (fun m=>dot n (A i) (fun t=>P t m)) (A j)+Q i j=dot n (fun m=>dot n (A j) (fun t=>P t m)) (A i)+Q j i) :
  qK n n (QO n n l p q) (fun i j=>dot n (fun m=>dot n (A i) (fun t=>P t m)) (A j)+Q i j) :=
 ((h.mul hp).mul h.turn |>.adds hq).mir hs
theorem qK.beside {r c k:Nat} {l l':List Num} {A B:Nat→Nat→R.Real} (h:qK r c l A) (h':qK r k l' B):qK r (c+k) (VO r c k l l') (fun i j=>if j<c then A i j else B i (j-c)):=by
 have hl:∀i,i<r→(qz c l i++qz k l' i).length=c+k:=fun i hi=>by rw [List.length_append,(h.row hi).1,(h'.row hi).1]
 refine ⟨Ym (c+k) r _ hl,fun i hi j hj=>?_⟩;show Enc (((List.range r).flatMap fun j=>qz c l j++qz k l' j).getD _ _) _;rw [zaw qe (c+k) r _ hl hi hj,List.getD_eq_getElem?_getD];show Enc _ (if j<c then A i j else B i (j-c))
 by_cases e:j<c
 ·rw [if_pos e,List.getElem?_append_left (by rw [(h.row hi).1];exact e),←List.getD_eq_getElem?_getD];exact (h.row hi).2 j e
 ·rw [if_neg e,List.getElem?_append_right (by rw [(h.row hi).1];omega),(h.row hi).1,←List.getD_eq_getElem?_getD];exact (h'.row hi).2 _ (by omega)
theorem zjD {n : Nat} {l : List Num} {f : Nat → R.Real} (h : qN n l f) : qK 1 n l (fun _ j => f j) :=
  ⟨by rw [h.1, Nat.one_mul], fun i hi j hj => by obtain rfl : i = 0 := by omega
                                                 rw [Nat.zero_mul, Nat.zero_add]; exact h.2 j hj⟩
theorem zeq {n : Nat} {l : List Num} {f : Nat → R.Real} (h : qN n l f) : qK n 1 l (fun i _ => f i) :=
  ⟨by rw [h.1, Nat.mul_one], fun i hi j hj => by obtain rfl : j = 0 := by omega
                                                 rw [Nat.mul_one, Nat.add_zero]; exact h.2 i hi⟩
theorem qK.drop {n : Nat} {l : List Num} {A : Nat → Nat → R.Real} (h : qK n n l A) : qN (n * n) l (fun t => A (t / n) (t % n)) :=
  ⟨h.1, fun t ht => by
    have hn : 0 < n := by rcases Nat.eq_zero_or_pos n with e | e
                          · subst e; omega
                          · exact e
    have := h.2 (t / n) (Nat.div_lt_of_lt_mul ht) (t % n) (Nat.mod_lt _ hn);rw [Nat.mul_comm, Nat.div_add_mod] at this;exact this⟩
def ZX (r c:Nat) (X:List (List Num)) (A:Nat→Nat→R.Real):Prop:=X.length=r∧∀i,i<r→∃xs,X[i]?=some xs∧qN c xs (A i)
theorem qK.rows {r c:Nat} {l:List Num} {A:Nat→Nat→R.Real} (h:qK r c l A):ZX r c (j1 r c l) A :=
 ⟨by simp [j1],fun i hi=>⟨qz c l i,by unfold j1;rw [List.getElem?_map,List.getElem?_range hi];rfl,h.row hi⟩⟩
theorem zh6 {α:Type} (X:List (List α)):X.flatMap id=(List.range X.length).flatMap fun i=>X.getD i []:=by
 induction X with
 | nil=>rfl
 | cons x X ih =>
  rw [List.flatMap_cons,List.length_cons,List.range_succ_eq_map,List.flatMap_cons,ih,List.flatMap_map];rfl
theorem ZX.getD {r c:Nat} {X:List (List Num)} {A:Nat→Nat→R.Real} (h:ZX r c X A) {i:Nat} (hi:i<r):qN c (X.getD i []) (A i):=by
 obtain ⟨xs,h1,h2⟩:=h.2 i hi;rw [List.getD_eq_getElem?_getD,h1];exact h2
theorem ZX.flat {r c:Nat} {X:List (List Num)} {A:Nat→Nat→R.Real} (h:ZX r c X A):qK r c (X.flatMap id) A:=by
 rw [zh6,h.1];exact ⟨Ym c r _ fun i hi=>(h.getD hi).1,fun i hi j hj=>by rw [zaw qe c r _ (fun i hi=>(h.getD hi).1) hi hj];exact (h.getD hi).2 j hj⟩
theorem qN.take {n k:Nat} {xs:List Num} {f:Nat→R.Real} (h:qN n xs f) (hk:k≤n):qN k (xs.take k) f :=
 ⟨by rw [List.length_take,h.1];omega,fun i hi=>by rw [List.getD_eq_getElem?_getD,List.getElem?_take_of_lt hi,←List.getD_eq_getElem?_getD];exact h.2 i (by omega)⟩
theorem qN.drop {n k:Nat} {xs:List Num} {f:Nat→R.Real} (h:qN n xs f):qN (n-k) (xs.drop k) (fun i=>f (k+i)) :=
 ⟨by rw [List.length_drop,h.1],fun i hi=>by rw [List.getD_eq_getElem?_getD,List.getElem?_drop,←List.getD_eq_getElem?_getD];exact h.2 _ (by omega)⟩
theorem qN.app {n k:Nat} {xs ys:List Num} {f:Nat→R.Real} (h:qN n xs f) (h':qN k ys (fun i=>f (n+i))):qN (n+k) (xs++ys) f :=
 ⟨by rw [List.length_append,h.1,h'.1],fun i hi=>by
  rw [List.getD_eq_getElem?_getD]
  by_cases e:i<n
  ·rw [List.getElem?_append_left (by rw [h.1];exact e),←List.getD_eq_getElem?_getD];exact h.2 i e
  ·have:=h'.2 (i-n) (by omega)
   dsimp only at this;rw [show n+(i-n)=i by omega] at this;rw [List.getElem?_append_right (by rw [h.1];omega),h.1,←List.getD_eq_getElem?_getD];exact this⟩
theorem qN.set {n:Nat} {xs:List Num} {f:Nat→R.Real} (h:qN n xs f) (k:Nat) {y:Num} {g:Nat→R.Real} (hy:Enc y (g k)) (hg:∀i,i<n→i≠k→f i=g i):qN n (xs.set k y) g :=
 ⟨by rw [List.length_set,h.1],fun i hi=>by
  rw [List.getD_eq_getElem?_getD,List.getElem?_set]
  by_cases e:k=i
  ·subst e;rw [if_pos rfl,if_pos (by rw [h.1];exact hi)];exact hy
  ·rw [if_neg e,←List.getD_eq_getElem?_getD,←hg i hi (Ne.symm e)];exact h.2 i hi⟩
theorem ZX.firsts {r c k:Nat} {X:List (List Num)} {A:Nat→Nat→R.Real} (h:ZX r c X A) (hk:k≤c):qK r k (X.flatMap (List.take k)) A:=by
 have:X.flatMap (List.take k)=(X.map (List.take k)).flatMap id:=by rw [List.flatMap_map];rfl
 rw [this];refine ZX.flat ⟨by rw [List.length_map,h.1],fun i hi=>?_⟩;obtain ⟨xs,h1,h2⟩:=h.2 i hi;exact ⟨xs.take k,by rw [List.getElem?_map,h1];rfl,h2.take hk⟩
theorem ZX.upTo {r c j k:Nat} {X:List (List Num)} {A B:Nat→Nat→R.Real} {f:Nat→List Num→List Num} (h:ZX r c X A)
  (hf:∀i xs,j≤i→i<k→i<r→qN c xs (A i)→qN c (f i xs) (B i)) (he:∀i,i<r→¬(j≤i∧i<k)→∀m,m<c→A i m=B i m):ZX r c (yx f X j k) B :=
 ⟨by rw [ZB,h.1],fun i hi=>by
  obtain ⟨xs,h1,h2⟩:=h.2 i hi;rw [yt,h1]
  by_cases e:j≤i∧i<k
  ·exact ⟨f i xs,by simp [e],hf i xs e.1 e.2 hi h2⟩
  ·exact ⟨xs,by simp [e],h2.congr (he i hi e)⟩⟩
theorem ZX.set {r c k:Nat} {X:List (List Num)} {A B:Nat→Nat→R.Real} {y:List Num} (h:ZX r c X A) (hk:k<r) (hy:qN c y (B k)) (he:∀i,i<r→i≠k→∀m,m<c→A i m=B i m):ZX r c (X.set k y) B :=
 ⟨by rw [List.length_set,h.1],fun i hi=>by
  rw [List.getElem?_set]
  by_cases e:k=i
  ·subst e;rw [if_pos rfl,if_pos (by rw [h.1];exact hi)];exact ⟨y,rfl,hy⟩
  ·obtain ⟨xs,h1,h2⟩:=h.2 i hi
   rw [if_neg e];exact ⟨xs,h1,h2.congr (he i hi (Ne.symm e))⟩⟩
end
section
open R R.Real
theorem zin {m:Nat} {x:List Num} {f:Nat→R.Real} (h:qN m x f):∃p,p*p=dot m f f∧Enc (zch x) p:=by
 have h0:0≤dot m f f:=zcF fun i _=>zaa _;unfold zch
 split
 ·exact ⟨-zbb (dot m f f),by rw [neg_mul,mul_neg,R.Real.neg_neg];exact Vi h0,(h.dot h).root.neg⟩
 ·exact ⟨zbb (dot m f f),Vi h0,(h.dot h).root⟩
theorem zim {m:Nat} {x:List Num} {f:Nat→R.Real} {P:Num} {p:R.Real} (h:qN m x f) (hm:1≤m) (hp:Enc P p):qN m (zcg x P) (fun i=>f i-tip p i) :=
 h.set 0 ((h.2 0 (by omega)).sub hp) fun i _ hi=>by unfold tip;rw [if_neg hi,sub_zero]
theorem YJ (j:Nat):qN j (List.replicate j (Num.of 0)) (fun _=>0) :=
 ⟨List.length_replicate,fun i hi=>by rw [List.getD_eq_getElem?_getD,List.getElem?_replicate,if_pos hi];exact zbr⟩
theorem zdO {c k j:Nat} {p:R.Real} {A:Nat→Nat→R.Real} (h:k≤j):jj c k p A k j=tip p (j-k):=by
 unfold jj;rw [if_neg (by omega),if_pos rfl]
theorem zeI {c k j:Nat} {p:R.Real} {A:Nat→Nat→R.Real} (i:Nat) (h:j<k):jj c k p A i j=A i j:=if_pos (.inr h)
theorem ZX.fold {n c k:Nat} {X:List (List Num)} {A:Nat→Nat→R.Real} (h:ZX n c X A) (hk:k<n) (hc:k<c) :
  ∃p,p*p=dot (c-k) (fun j=>A k (k+j)) (fun j=>A k (k+j))∧ZX n c (Ze n k X) (jj c k p A):=by
 have hx:=(h.getD hk).drop (k:=k);obtain ⟨p,hp,ep⟩:=zin hx;have hv:=zim hx (by omega) ep;refine ⟨p,hp,?_⟩;unfold Ze;have hxk:=h.getD hk;generalize X.getD k []=xs at hx hv ep hxk ⊢;dsimp only;generalize zch (xs.drop k)=P at hv ep ⊢;generalize zcg (xs.drop k) P=v at hv ⊢;have ec:c=k+(c-k):=by omega
 refine ZX.set (B:=jj c k p A) (A:=fun i j=>if i=k then A i j else jj c k p A i j) ?_ hk ?_ ?_
 ·refine h.upTo ?_ ?_
  ·intro i ws h1 h2 h3 hw
   have hd:=hw.drop (k:=k)
   have key:=((hw.take (k:=k) (by omega)).congr (g:=jj c k p A i) fun j hj=>by unfold jj;rw [if_pos (.inr hj)]).app ((hd.subs (hv.scale (((hd.dot hv).add (hd.dot hv)).div (hv.dot hv)))).congr (g:=fun j=>jj c k p A i (k+j)) fun j hj=>by
    unfold jj;rw [if_neg (by omega),if_neg (by omega),show k+j-k=j by omega];rfl)
   rw [show k+(c-k)=c by omega] at key;exact key.congr fun j hj=>(if_neg (by omega)).symm
  ·intro i hi hn m hm
   by_cases e:i=k
   ·rw [if_pos e]
   ·rw [if_neg e];unfold jj;rw [if_pos (.inl (by omega))]
 ·have key:=((hxk.take (k:=k) (by omega)).congr (g:=jj c k 0 A k) fun j hj=>by unfold jj;rw [if_pos (.inr hj)]).app ((YJ (c-k)).congr (g:=fun j=>jj c k 0 A k (k+j)) fun j hj=>by
   unfold jj tip;rw [if_neg (by omega),if_pos rfl]
   split<;>rfl)
  rw [show k+(c-k)=c by omega] at key
  have el:qT k xs (xs.length-k)=xs.take k++List.replicate (c-k) (Num.of 0):=by
   unfold qT;rw [hxk.1,List.drop_eq_nil_of_le (by rw [hxk.1];omega),List.append_nil]
  rw [el];refine key.set k (g:=jj c k p A k) ?_ ?_
  ·rw [zdO (Nat.le_refl k),Nat.sub_self];exact ep
  ·intro j hj hn
   by_cases e:j<k
   ·rw [zeI _ e,zeI _ e]
   ·rw [zdO (by omega),zdO (by omega)]
    unfold tip;rw [if_neg (by omega),if_neg (by omega)]
 ·intro i hi hn m hm
  rw [if_neg hn]
theorem ZX.foldX {n c:Nat} {X:List (List Num)} {A:Nat→Nat→R.Real} (h:ZX n c X A) (hc:n≤c) (k:Nat) (hk:k≤n) :
  ∃B,ZX n c (zdt n X k) B∧(∀i l,dot c (B i) (B l)=dot c (A i) (A l))∧∀i,i<k→∀j,i<j→j<c→B i j=0:=by
 induction k with
 | zero=>exact ⟨A,h,fun _ _=>rfl,fun i hi=>by omega⟩
 | succ k ih =>
  obtain ⟨B,h1,h2,h3⟩:=ih (by omega);obtain ⟨p,hp,hB⟩:=h1.fold (k:=k) (by omega) (by omega);exact ⟨_,hB,fun i l=>by rw [zfR (by omega) h3 hp,h2],zfQ h3⟩
theorem qK.foldN {r c:Nat} {l:List Num} {A:Nat→Nat→R.Real} (h:qK r c l A) (hc:r≤c) :
  ∃S,qK r r (zhb r c l) S∧(∀i m,i<m→m<r→S i m=0)∧∀i j,i<r→j<r→dot r (S i) (S j)=dot c (A i) (A j):=by
 obtain ⟨B,h1,h2,h3⟩:=h.rows.foldX hc r (Nat.le_refl r);have hL:qK r r (Jm r c l) B:=h1.firsts hc;refine ⟨_,hL.signs.clear,fun i m him hm=>if_pos him,fun i j hi hj=>?_⟩;refine (zfV (zbW r (Jm r c l)) (L:=B) (S:=fun i j=>if i<j then 0 else if j≤i∧zbW r (Jm r c l) j then -(B i j) else B i j) (fun i hi j hij hj=>h3 i hi j hij (by omega)) ?_ hi hj).trans ?_
 rotate_left
 ·rw [←h2]
  obtain ⟨m,rfl⟩:∃m,c=r+m:=⟨c-r,by omega⟩
  rw [Yo,J4 (n:=m) _ (fun t ht=>h3 i hi _ (by omega) (by omega)),R.Real.add_zero]
 ·intro i j
  by_cases e:i<j
  ·rw [if_pos e,if_pos e]
  ·rw [if_neg e,if_neg e]
   by_cases e2:zbW r (Jm r c l) j
   ·rw [if_pos ⟨by omega,e2⟩,if_pos e2]
   ·rw [if_neg (fun h=>e2 h.2),if_neg e2]
def zeB (n:Nat) (s:RSt) (t:CSt):Prop:=ZX n n s.X t.A∧qN n s.E t.E∧Enc s.a t.a
theorem zeB.step {n j:Nat} {s:RSt} {t:CSt} {ws:List Num} {w:Nat→R.Real} (h:zeB n s t) (hw:qN n ws w) (hj:j<n):zeB n (JE n ws j s) (Yw n w j t):=by
 obtain ⟨h1,h2,h3⟩:=h;have hx:=hw.2 j hj;have hb:=h3.add (hx.mul hx);have hd:Enc (zfz s.a (s.a.add ((ws.getD j qe).mul (ws.getD j qe)))) (VK t.a (t.a+w j*w j)):=(h3.div hb).root;have hc:Enc (zfA (ws.getD j qe) s.a (s.a.add ((ws.getD j qe).mul (ws.getD j qe)))) (VM (w j) t.a (t.a+w j*w j)):=hx.div (h3.mul hb).root;unfold JE;dsimp only;refine ⟨h1.upTo ?_ ?_,?_,hb⟩
 ·intro i xs hi1 _ hi hxs
  unfold Qp;refine hxs.set j ?_ ?_
  ·show Enc _ (if j=j∧j≤i then _ else _)
   rw [if_pos ⟨rfl,hi1⟩];exact ((hxs.2 j hj).mul hd).sub ((h2.2 i hi).mul hc)
  ·intro m hm hne
   exact (if_neg (fun h=>hne h.1)).symm
 ·intro i hi hn m hm
  exact (if_neg (fun h=>hn ⟨h.2,hi⟩)).symm
 ·refine ⟨by rw [ZB,h2.1],fun i hi=>?_⟩
  rw [List.getD_eq_getElem?_getD,yt];have hl:i<s.E.length:=by rw [h2.1];exact hi
  have he:=h2.2 i hi;rw [List.getD_eq_getElem?_getD,List.getElem?_eq_getElem hl] at he;rw [List.getElem?_eq_getElem hl];show Enc (if j≤i∧i<n then zis j _ s.X i s.E[i] else s.E[i]) (if j≤i then t.E i+t.A i j*w j else t.E i)
  by_cases e:j≤i
  ·rw [if_pos ⟨e,hi⟩,if_pos e]
   exact Enc.add he (((h1.getD hi).2 j hj).mul hx)
  ·rw [if_neg (fun h=>e h.1),if_neg e]
   exact he
theorem zeB.loop {n:Nat} {s:RSt} {t:CSt} {ws:List Num} {w:Nat→R.Real} (h:zeB n s t) (hw:qN n ws w):∀k,k≤n→zeB n (ZH n ws s k) (zb5 n w t k)
 | 0,_=>h
 | k+1,hk=>(zeB.loop h hw k (by omega)).step hw (by omega)
def ziG (n:Nat) (x p y s:List Num):Prop:=∃X S,qN n x X∧qN n y X∧qK n n s S∧(∀i m,i<m→m<n→S i m=0)∧qK n n p (fun i j=>dot n (S i) (S j))
theorem zit {n:Nat} {x p y s f g:List Num} {F G:Nat→Nat→R.Real} (hF:qK n n f F) (hG:qK n n g G) (h:ziG n x p y s) :
  ziG n (zhV n x f) (zhX n p f g) (zdd n y f) (zbR n s f g):=by
 obtain ⟨X,S,hx,hy,hs,ht,hp⟩:=h;obtain ⟨T,h1,h2,h3⟩:=((hF.mul hs).beside hG).foldN (by omega)
 have key:∀i j,i<n→j<n→dot n (T i) (T j)=dot n (fun m=>dot n (F i) (fun t=>dot n (S t) (S m))) (F j)+dot n (G i) (G j):=fun i j hi hj=>by
  rw [h3 i j hi hj,Yo]
  congr 1
  ·rw [ye (f':=fun m=>dot n (F i) (fun t=>S t m)) (g':=fun m=>dot n (F j) (fun t=>S t m)) (fun m hm=>if_pos hm) (fun m hm=>if_pos hm)]
   unfold dot;rw [show (Sig n fun i_1=>(Sig n fun i_2=>F i i_2*S i_2 i_1)*Sig n fun i=>F j i*S i i_1)=Sig n fun m=>Sig n fun t=>(Sig n fun u=>F i u*S u m)*(F j t*S t m) from qm fun m _=>Qb _ _ _,VY];refine qm fun t _=>?_;rw [VZ];rw [show (Sig n fun m=>(Sig n fun u=>F i u*S u m)*(F j t*S t m))=Sig n fun m=>Sig n fun u=>F i u*S u m*(F j t*S t m) from qm fun m _=>VZ _ _ _,VY]
   refine qm fun u _=>?_;rw [R.Real.mul_assoc,R.Real.mul_comm (Sig n _),←R.Real.mul_assoc,Qb];refine qm fun m _=>?_;generalize F i u=a;generalize S u m=b;generalize F j t=c;generalize S t m=d;rw [R.Real.mul_assoc,R.Real.mul_assoc,←R.Real.mul_assoc b,R.Real.mul_comm b,R.Real.mul_assoc c]
  ·refine ye (fun m hm=>?_) (fun m hm=>?_)
   ·rw [if_neg (by omega),show n+m-n=m by omega]
   ·rw [if_neg (by omega),show n+m-n=m by omega]
 refine ⟨fun i=>dot n (F i) X,T,hF.apply hx,hF.apply hy,h1,h2,?_⟩;refine (hF.turned hp hG.square fun i hi j hj=>?_).congr fun i hi j hj=>(key i j hi hj).symm;rw [←key i j hi hj,←key j i hj hi,jN]
theorem zlC (a b:R.Real):dot 1 (fun _=>a) (fun _=>b)=a*b:=R.Real.zero_add _
theorem ziu {n:Nat} {x p y s hh:List Num} {r z:Num} {H:Nat→R.Real} {rr zz:R.Real} (hH:qN n hh H) (hr:Enc r rr) (hp0:Pos rr) (hz:Enc z zz) (h:ziG n x p y s) :
  ziG n (YF n x p hh r z) (zb8 n p hh r) (Qj n y s hh r z) (ZG n s hh r):=by
 obtain ⟨X,S,hx,hy,hs,ht,hp⟩:=h;obtain ⟨P,eP⟩:=zc ((fun i j=>dot n (S i) (S j)));have PS:∀i j,P i j=dot n (S i) (S j):=fun i j=>by rw [←eP]
 rw [eP] at hp;have sym:∀i l,P i l=P l i:=fun i l=>by rw [PS,PS,jN]
 obtain ⟨u,eu⟩:=zc ((fun i=>dot n (P i) H));have hu:=hp.apply hH;rw [eu] at hu;have uP:∀i,u i=dot n (P i) H:=fun i=>by rw [←eu]
 obtain ⟨a,ea⟩:=zc (dot n H u+rr);obtain ⟨w,ew⟩:=zc ((fun j=>dot n (fun m=>S m j) H));have hw:qN n (zf1 n s hh) w:=by rw [←ew];exact hs.turn.apply hH
 have h0:zeB n ⟨j1 n n s,ZI n,r⟩ ⟨S,fun _=>0,rr⟩:=⟨hs.rows,by
  refine ⟨by simp [ZI,jC],fun i hi=>?_⟩;have:ZI n=List.replicate n (Num.of 0):=by unfold ZI jC;rw [List.map_replicate]
  rw [this];exact (YJ n).2 i hi,hr⟩
 have hl:=h0.loop hw n (Nat.le_refl n);obtain ⟨c1,c2,c3,c4,c5⟩:=zkt (w:=w) hp0 ht;change zeB n (yz n s hh r) _ at hl;generalize zb5 n w ⟨S,fun _=>0,rr⟩ n=t at hl c1 c2 c3 c4 c5
 have ta:t.a=a:=by
  rw [c1,←ea,R.Real.add_comm]
  congr 1
  have hu':u=fun i=>dot n (fun m=>dot n (S i) (S m)) H:=by rw [←eu,←eP]
  rw [←ew,hu'];exact zjK n S H
 have tE:∀i,i<n→t.E i=u i:=fun i hi=>by
  rw [c3 i hi,uP,←ew,show P i=fun m=>dot n (S i) (S m) from funext fun m=>PS i m];exact zdy n S H i
 have an:a≠0:=ta▸c2.2;obtain ⟨l1,l2,l3⟩:=hl;have e1:Enc (zb9 x hh z) (zz-dot n H X):=hz.sub (hH.dot hx);have e2:Enc (YS y hh z) (zz-dot n H X):=hz.sub (hH.dot hy);have ha:Enc (zff n p hh r) a:=by rw [←ea];exact (hH.dot hu).add hr
 have hk:qN n (zca n p hh r) (fun i=>u i / a):=hu.map (fun x=>x.div (zff n p hh r)) (fun x=>x / a) fun _ _ h=>h.div ha
 have hk2:qN n (zeP n s hh r) (fun i=>u i / a):=(l2.map (fun x=>x.div (yz n s hh r).a) (fun x=>x / a) fun _ _ h=>h.div (ta▸l3)).congr fun i hi=>by
  show t.E i / a=u i / a;rw [tE i hi]
 refine ⟨fun i=>X i+u i / a*(zz-dot n H X),t.A,hx.adds (hk.scale e1),hy.adds (hk2.scale e2),l1.flat,c4,?_⟩
 have hM:qK n n (vB (Z5 n) (vK n 1 n (zca n p hh r) hh)) (fun i j=>Jy i j-u i / a*H j) :=
  ((zjC n).subs ((zeq hk).mul (zjD hH))).congr fun i _ j _=>by rw [zlC]
 have hK:qK n n (vK n 1 n (qr (zca n p hh r) r) (j5 n 1 (zca n p hh r))) (fun i j=>u i / a*rr*(u j / a)) :=
  ((zeq (hk.scale hr)).mul (zeq hk).turn).congr fun i _ j _=>by rw [zlC]
 have J:∀i l,i<n→l<n→dot n (fun m=>dot n (fun j=>Jy i j-u i / a*H j) (fun t=>P t m)) (fun j=>Jy l j-u l / a*H j)+u i / a*rr*(u l / a)=P i l-u i*u l / a:=fun i l hi hl =>
  zk5 (M:=fun i j=>Jy i j-u i / a*H j) (k:=fun i=>u i / a) (fun i l _ _=>sym i l) (fun i _=>uP i) ea.symm an (fun _ _=>rfl) (fun _ _ _ _=>rfl) hi hl
 refine (hM.turned hp hK fun i hi j hj=>?_).congr fun i hi j hj=>?_
 ·rw [J i j hi hj,J j i hj hi,sym i j,R.Real.mul_comm (u i)]
 ·rw [J i j hi hj,c5 i j hi hj,tE i hi,tE j hj,ta,PS]
theorem zgF {n:Nat} {x y s:List Num} {X:Nat→R.Real} {A:Nat→Nat→R.Real} (hx:qN n x X) (hA:qK n n s A):ziG n x (yj n (Qq n s)) x (Qq n s) :=
 ⟨X,_,hx,hx,hA.clear,fun i m him _=>if_pos him,hA.clear.square⟩
end
section
open R R.Real
theorem zfl {a b:Num} {x:R.Real} (ha:Enc a x) (hb:Enc b x):zcY a b=0:=by
 unfold zcY
 split
 ·rename_i h
  simp only [Bool.and_eq_true] at h;have h1:=zio (R.Real.le_trans (ha h.1).1 (hb h.2).2);have h2:=zio (R.Real.le_trans (hb h.2).1 (ha h.1).2);unfold mx
  split<;>split<;>omega
 ·rfl
theorem zgd {f:Num→Num→Int} {l:List (Num×Num)} (h:∀(i:Nat) (a b:Num),l[i]?=some (a,b)→f a b=0):Jl f l=0:=by
 unfold Jl
 suffices H:∀(l:List (Num×Num)),(∀q,q∈l→f q.1 q.2=0)→l.foldl (fun m q=>mx m (f q.1 q.2)) 0=0 by
  refine H l fun q hq=>?_;obtain ⟨i,hi⟩:=List.getElem?_of_mem hq;exact h i q.1 q.2 hi
 intro l
 induction l with
 | nil=>intro _;rfl
 | cons q l ih =>
  intro h;rw [List.foldl_cons,h q List.mem_cons_self];exact ih fun q hq=>h q (List.mem_cons_of_mem _ hq)
def J8 (r:PR):Prop:=ziG r.n r.x r.p r.y r.s
theorem Yj {l:List Num} {i:Nat} {a:Num} (h:l[i]?=some a):l.getD i qe=a:=by rw [List.getD_eq_getElem?_getD,h];rfl
theorem zjp {r:PR} (h:J8 r):zjq r=0:=by
 obtain ⟨X,S,hx,hy,hs,ht,hp⟩:=h;have hq:=hs.square;refine zgd fun i a b hi=>?_;rw [List.getElem?_zip_eq_some] at hi;obtain ⟨ha,hb⟩:=hi;unfold Zl at ha;unfold Zk at hb
 by_cases h:i<r.n
 ·rw [List.getElem?_append_left (by rw [hx.1];exact h)] at ha
  rw [List.getElem?_append_left (by rw [hy.1];exact h)] at hb;have h1:=hx.2 i h;have h2:=hy.2 i h;rw [Yj ha] at h1;rw [Yj hb] at h2;exact zfl h1 h2
 ·rw [List.getElem?_append_right (by rw [hx.1];omega),hx.1] at ha
  rw [List.getElem?_append_right (by rw [hy.1];omega),hy.1] at hb;have hlt:i-r.n<r.n*r.n:=by rw [←hp.1];exact (List.getElem?_eq_some_iff.1 ha).1
  have h1:=hp.drop.2 (i-r.n) hlt;have h2:=hq.drop.2 (i-r.n) hlt;rw [Yj ha] at h1;rw [Yj hb] at h2;exact zfl h1 h2
theorem zav (n:Nat) (l:List Int) (h:l.length=n*n):qK n n (zM l) (fun i j=>e (l.getD (i*n+j) 0)) :=
 ⟨by rw [jo,h],fun i hi j hj=>by
  unfold zM;rw [JS jf l _ 0 qe (by rw [h];exact VJ hi hj)];exact vR _⟩
theorem ziv {n:Nat} {l:List Int} (h:l.length=n+n*n):J8 (zbg n l):=by
 have h1:=zcq (l.take n);rw [show (l.take n).length=n by rw [List.length_take];omega] at h1;exact zgF (y:=[]) h1 (zav n (l.drop n) (by rw [List.length_drop];omega))
theorem zgD {r:PR} {l:List Int} (hl:l.length=r.n*r.n+r.n*r.n) (h:J8 r):J8 (ziP r l) :=
 zit (zav r.n (l.take (r.n*r.n)) (by rw [List.length_take];omega)) (zav r.n (l.drop (r.n*r.n)) (by rw [List.length_drop];omega)) h
theorem zln {k:Int} (h:0<k):Pos (e k):=⟨by rw [←vJ];exact vS (by omega),zlM (by omega)⟩
theorem zgE {r:PR} {l:List Int} (hl:l.length=r.n+2) (hr:0<l.getD r.n 0) (h:J8 r):J8 (zjd r l):=by
 have h1:=zcq (l.take r.n);rw [show (l.take r.n).length=r.n by rw [List.length_take];omega] at h1;exact ziu h1 (vR _) (zln hr) (vR _) h
end
end Go.Proofs.YtcoiklclbljjeaaGreatDoor.L
