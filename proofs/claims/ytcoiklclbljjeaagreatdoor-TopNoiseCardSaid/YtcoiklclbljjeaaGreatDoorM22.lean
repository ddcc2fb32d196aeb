/- Lemmas of the card's proof. -/
import Derived.Test.YtcoiklclbljjeaaGreatDoorM21
set_option linter.unusedVariables false
set_option linter.unusedSimpArgs false
set_option maxRecDepth 100000
set_option maxHeartbeats 16000000
namespace Go.Proofs.YtcoiklclbljjeaaGreatDoor.L
open Go.RowKit
theorem XbH {P:Prop} (h:P:=by
 refine ⟨?_,by simp,fun hj=>absurd hj (by simp)⟩;rw [if_neg (by omega)];cases j<;>simp) : P := h
section
attribute [local go_sem] Oper.semAt_some
theorem zk7:(Tryz.prog.info? 22).map (fun i=>(i.zero,i.size,i.bytes))=some (some (.slice none 0 0),1,24):=by kernel_rfl
def Zt (w:World) (B:Nat) (v:Value) (rs:List (List Int)):Prop:=∃xs:List Value,w.ownsRow B 22 1 v rs.length xs∧∀(j:Nat) (r:List Int),rs[j]?=some r→∃u,xs[j]?=some u∧qH w B u r
theorem zi3 {w:World} {B B':Nat} {u v:Value} {r:List Int} {n:Nat} {xs:List Value} (h:qH w B u r) (h2:w.ownsRow B' 22 1 v n xs):u.ownBlock=none∨u.ownBlock≠v.ownBlock:=by
 rcases h.2 with ⟨rfl,_⟩|⟨g,cap,cur,rfl,_,hb,_⟩
 ·exact .inl rfl
 ·right
  rcases h2.2 with ⟨rfl,_⟩|⟨g2,cap2,cur2,rfl,_,hb2,_⟩
  ·simp [Value.ownBlock]
  ·intro e
   have:g=g2:=by simpa [Value.ownBlock] using e
   subst this;rw [hb] at hb2;cases hb2
theorem Zt.below {w w':World} {B:Nat} {v:Value} {rs:List (List Int)} (h:Zt w B v rs) (hb:Below w.heap.size w w'):Zt w' B v rs:=by
 obtain ⟨xs,h1,h2⟩:=h;refine ⟨xs,World.ownsRow.kept h1 (zN hb) (by cases v.ownBlock<;>simp),fun j r hr=>?_⟩;obtain ⟨u,hu,ho⟩:=h2 j r hr;exact ⟨u,hu,ho.below hb⟩
theorem Zt.base {w:World} {B B':Nat} {v:Value} {rs:List (List Int)} (h:Zt w B v rs) (hB:B'≤B):Zt w B' v rs:=by
 have key:∀ {e:TypeId} {n:Nat} {v:Value} {xs:List Value},w.ownsRow B e 1 v n xs→w.ownsRow B' e 1 v n xs:=by
  intro e n v xs h;exact XaI
 obtain ⟨xs,h1,h2⟩:=h;refine ⟨xs,key h1,fun j r hr=>?_⟩;obtain ⟨u,hu,ho⟩:=h2 j r hr;exact ⟨u,hu,key ho⟩
theorem Zt.at_ {w:World} {B:Nat} {v:Value} {rs:List (List Int)} (h:Zt w B v rs) {j:Nat} {r:List Int} (hr:rs[j]?=some r) :
  ∃g c A c', v=.slice (some ⟨g,0,none⟩) rs.length c∧B≤g∧g<w.heap.size∧rs.length≤c∧w.cell? ⟨g,j,none⟩=some (.slice A r.length c')∧qH w B (.slice A r.length c') r:=by
 obtain ⟨xs,h1,h2⟩:=h;obtain ⟨u,hu,ho⟩:=h2 j r hr;have hj:j<rs.length:=(List.getElem?_eq_some_iff.1 hr).1;obtain ⟨A,c', rfl⟩:=vu ho;rcases h1.2 with ⟨_,h0⟩|⟨g,cap,cur,rfl,hg,hb,hc,hm,hs,ht⟩
 ·omega
 ·refine ⟨g,cap,A,c', rfl,hg,(Array.getElem?_eq_some_iff.1 hb).1,hc,?_,ho⟩
  have e:w.cell? ⟨g,j,none⟩=cur[j]?:=by simp [World.cell?,hb]
  rw [e,←Array.getElem?_toList];rw [←ht,List.getElem?_take_of_lt (by omega)] at hu;exact hu
def zjX (rs:List (List Int)) (w:World) (e:Ending) (w':World):Prop:=∃v,e=.returned v∧Zt w' w.heap.size v rs∧Below w.heap.size w w'
def yY (k:Int) (n m:Nat):List Nat:=if k=1 then [n,m] else if k=2 then [n*n,m] else [n,n+1,m]
def y5 (es:List Nat) (j:Nat):Nat:=if j=0 then 0 else es.getD (j-1) 0
def Jp (es:List Nat) (l:List Int) (j:Nat):List Int:=(l.take (es.getD j 0)).drop (y5 es j)
def vx (es:List Nat) (l:List Int) (i:Nat):List (List Int):=(List.range i).map (Jp es l)
def qw (k:Int) (n:Nat) (l:List Int):List (List Int):=vx (yY k n l.length) l (yY k n l.length).length
theorem zgz (es:List Nat) (l:List Int) (i:Nat):vx es l (i+1)=vx es l i++[Jp es l i]:=by unfold vx;rw [List.range_succ];simp
theorem QH (es:List Nat) (l:List Int) (i:Nat):(vx es l i).length=i:=by simp [vx]
theorem zX {k s n:Int} {l:List Int} (h:zQ k s n l=true):1≤n∧n≤4∧0≤s∧s≤4294967295∧(∀x∈l,inF x=true)∧((k=1∧(l.length:Int)=n+n*n)∨(k=2∧(l.length:Int)=2*n*n)∨(k=3∧(l.length:Int)=n+2)):=by
 unfold zQ at h;simp only [Bool.and_eq_true,decide_eq_true_eq,Bool.not_eq_true', List.any_eq_false] at h;obtain ⟨h1,h2,h3,h4,h5⟩:=h;unfold jL at h1 h2;have hn:¬n<1:=fun e=>by rw [if_pos e] at h1;omega
 rw [if_neg hn] at h1 h2;have hn4:¬ 4<n:=fun e=>by rw [if_pos e] at h1;omega
 rw [if_neg hn4] at h1 h2;refine ⟨by omega,by omega,h3,h4,fun x hx=>by have:=h5 x hx;simpa using this,?_⟩
 by_cases k1:k=1
 ·rw [if_pos k1] at h2;exact .inl ⟨k1,h2⟩
 ·rw [if_neg k1] at h1 h2
  by_cases k2:k=2
  ·rw [if_pos k2] at h2;exact .inr (.inl ⟨k2,h2⟩)
  ·rw [if_neg k2] at h1 h2
   by_cases k3:k=3
   ·rw [if_pos k3] at h2;exact .inr (.inr ⟨k3,h2⟩)
   ·rw [if_neg k3] at h1;omega
theorem zU.part {w:World} {b o n c:Nat} {xs:List Int} (h:zU w (some ⟨b,o,none⟩) n c xs) (i j:Nat) (hij:i≤j) (hj:j≤n):zU w (some ⟨b,o+i,none⟩) (j-i) (c-i) ((xs.take j).drop i):=by
 exact XaD
theorem Qv {w:World} {B B':Nat} {v:Value} {xs:List Int} (h:qH w B v xs) (hB:B'≤B):qH w B' v xs:=by
 exact XaI
theorem Zt.alloc {w:World} {B:Nat} {v:Value} {rs:List (List Int)} (h:Zt w B v rs) (o:Obj):Zt (w.alloc o) B v rs:=h.below (zg (Below.refl _ _) o)
theorem Zt.lt {w:World} {B:Nat} {v:Value} {rs:List (List Int)} (h:Zt w B v rs) (k:Nat) (hk:v.ownBlock=some k):B≤k:=by
 obtain ⟨xs,h1,_⟩:=h;exact (World.ownsRow.lt h1 k hk).1
theorem za7 {ops:Array Oper} {rest:List Oper} {o:Oper} {a:Act} {Q:Exit→Act→World→Prop} {w:World} (hgd:o.guard=none) (s x:Operand)
  (ho:o.op=.call { callee:=.builtin .append,args:=#[s,x],argTypes:=#[107,107] }) (B:Nat) (v:Value) (rs:List (List Int)) (r:List Int) (u:Value) (g:Nat) (hs:a.eval s=v) (hown:Zt w B v rs) (hu:qH w B u r)
  (hx:a.eval x=.slice (some ⟨g,0,none⟩) 1 1) (hy:At w g 22 #[u]) (hl:rs.length≤1000) (hB:B≤w.heap.size)
  (h:∀v' w', Zt w' B v' (rs++[r])→w.grownBy w' v.ownBlock→(v'.ownBlock=v.ownBlock∨v'.ownBlock=some w.heap.size)→wpList Tryz.prog ops Q rest (a.put o.dst v') w'):wpList Tryz.prog ops Q (o::rest) a w:=by
 obtain ⟨i0,hi,hz0,hz1,hz2⟩:=info_parts zk7;obtain ⟨xs,h1,h2⟩:=hown;have hxl:xs.length=rs.length:=by have:=h1.1;omega
 refine wpList_append_own_at w hgd s x 107 ho B 22 i0 (.slice none 0 0) 1 24 Tryz.underlying107 hi hz0 hz1 hz2 rfl (by decide) v rs.length xs hs h1 ⟨g,0,none⟩ 1 1 [u] hx rfl
  (fun j z hj=>?_) (fun z hz=>by simp at hz;subst hz;obtain ⟨A,c,rfl⟩:=vu hu;rfl) (by unfold maxLen;omega) (by omega) hB ?_
 ·match j,hj with
  | 0,hj=>simp at hj;subst hj;exact hy.cell 0
  | j+1,hj=>simp at hj
 ·intro v' w' hown' hgrow _ hat
  refine h v' w' ⟨xs++[u],by simpa using hown', fun j r' hr=>?_⟩ hgrow hat
  by_cases hj:j<rs.length
  ·rw [List.getElem?_append_left hj] at hr
   obtain ⟨u', hu', ho'⟩:=h2 j r' hr;exact ⟨u', by rw [List.getElem?_append_left (by omega)];exact hu', ho'.kept hgrow (zi3 ho' h1)⟩
  ·have hjl:j<(rs++[r]).length:=(List.getElem?_eq_some_iff.1 hr).1
   have:j=rs.length:=by simp at hjl;omega
   subst this;rw [List.getElem?_append_right (Nat.le_refl _),Nat.sub_self] at hr;have:r'=r:=by simpa using hr.symm
   subst this;exact ⟨u,by rw [←hxl,List.getElem?_append_right (Nat.le_refl _),Nat.sub_self];rfl,hu.kept hgrow (zi3 hu h1)⟩
theorem zkP {a m:Nat} (h0:0<a) (h:a<m):∀j,y5 ([a]++[m]) j≤([a]++[m]).getD j m∧([a]++[m]).getD j m≤m∧(j<[a].length+1→y5 ([a]++[m]) j<([a]++[m]).getD j 0):=by
 intro j;unfold y5
 match j with
 | 0=>simp;omega
 | 1=>simp;omega
 | j+2 =>
  exact XbH
theorem zlz {a m:Nat} (h0:0<a) (h:a+1<m):∀j,y5 ([a,a+1]++[m]) j≤([a,a+1]++[m]).getD j m∧([a,a+1]++[m]).getD j m≤m∧(j<[a,a+1].length+1→y5 ([a,a+1]++[m]) j<([a,a+1]++[m]).getD j 0):=by
 intro j;unfold y5
 match j with
 | 0=>simp;omega
 | 1=>simp;omega
 | 2=>simp;omega
 | j+3 =>
  exact XbH
theorem Qe (k s:Int) (n:Nat) (A:Option Addr) (m c:Nat) (l:List Int) (w:World) (hx:zU w A m c l) (hok:zQ k s n l=true) :
  Calls Tryz.prog 129 #[qV k s n A m c] w (zjX (qw k n l) w):=by
 obtain ⟨hn1,hn4,_,_,_,hkl⟩:=zX hok;have hlm:=hx.1;have hcp:=hx.2.1;obtain ⟨nn,hnn⟩:=zc (n*n);have hnni:(n:Int)*(n:Int)=(nn:Int):=by rw [←hnn];simp
 have hn:n=1∨n=2∨n=3∨n=4:=by omega
 have hnn2:n≤nn∧nn≤16:=by rw [←hnn];rcases hn with rfl|rfl|rfl|rfl<;>omega
 have hkl2:(k=1∧m=n+nn)∨(k=2∧m=2*nn)∨(k=3∧m=n+2):=by
  rw [Int.mul_assoc,hnni] at hkl;omega
 have hm0:0<m:=by omega
 have hm40:m≤40:=by omega
 obtain ⟨bA,oA,rfl,_⟩:=hx.2.2 hm0;have R:=za (fun W h=>Zd k s n (some ⟨bA,oA,none⟩) m c l (by omega) W h);rw [hok] at R;have HX:=za hx;have LX:=za hlm;have HNN:=za hnn;clear hx hok hkl hlm hnn;have hu:=Tryz.underlying47;have hmm:=@run_makeMap Tryz.prog;unfold qV at R ⊢;go_enter Tryz.func129,Tryz.ntmps129;go_wp2_with fail;obtain ⟨W0,hW0⟩:=zc ((w.alloc (.cells #[k,s,.int .i64 (n:Int),.slice (some ⟨bA,oA,none⟩) m c] 47)))
 obtain ⟨bx,b0,hsz⟩:=z6 hW0;rw [hW0];clear hW0;have F:=za ((Off.start b0 hsz).argI b0 (HX.out));have BX:=za bx;clear bx b0 hsz;obtain ⟨g,hg⟩:=zc (w.heap.size);rw [hg] at F BX
 try simp only [hg]
 refine (R.out _ F.out.out.2).mono ?_;rintro e w1 ⟨rfl,hb⟩;replace F:=zd F hb;replace BX:=ze BX hb;clear hb;clear R;obtain ⟨b,hbz⟩:=zc (w1.heap.size);have hhw:=F.out.hiw;have k1:Below w1.heap.size w1 (w1.alloc (.map #[] 0)):=zg (Below.refl _ _) _;have m1:(w1.alloc (.map #[] 0)).heap[b]?=some (.map #[] 0):=by rw [←hbz];exact (MapKept.heap_alloc _ _).1
 have D1:=At.new (w1.alloc (.map #[] 0)) 3 #[.int .i64 (n:Int)];obtain ⟨X3,e3,m3,g3,s3⟩:=zee (W:=(w1.alloc (.map #[] 0)).alloc (.cells #[.int .i64 (n:Int)] 3)) 1 (.slice (some ⟨b+1,0,none⟩) 1 1) (b:=b) (es:=#[]) (clk:=0) (by rw [(MapKept.heap_alloc _ _).2 b (by simp;omega)];exact m1) (by rfl);have k3:Below w1.heap.size w1 X3:=(zg k1 _).grown g3 (by simp;omega) (fun q e=>by cases e;omega)
 simp only [World.size_alloc,hbz] at D1 s3;replace D1:=D1.grown g3 (by simp);have D2:=At.new X3 3 #[.int .i64 (nn:Int)];rw [s3] at D2;obtain ⟨X5,e5,m5,g5,s5⟩:=zee (W:=X3.alloc (.cells #[.int .i64 (nn:Int)] 3)) 2 (.slice (some ⟨b+1+1,0,none⟩) 1 1) (b:=b) (by rw [(MapKept.heap_alloc _ _).2 b (by omega)];exact m3) (by rfl);have k5:Below w1.heap.size w1 X5:=(k3.alloc (by omega) _).grown g5 (by simp;omega) (fun q e=>by cases e;omega)
 simp only [World.size_alloc] at s5;rw [s3] at s5;replace D1:=(D1.alloc (.cells #[.int .i64 (nn:Int)] 3)).grown g5 (by simp);replace D2:=D2.grown g5 (by simp;omega);have D3:=At.new X5 3 #[.int .i64 (n:Int),.int .i64 ((n:Int)+1)];rw [s5] at D3;obtain ⟨X7,e7,m7,g7,s7⟩:=zee (W:=X5.alloc (.cells #[.int .i64 (n:Int),.int .i64 ((n:Int)+1)] 3)) 3 (.slice (some ⟨b+1+1+1,0,none⟩) 2 2) (b:=b) (by rw [(MapKept.heap_alloc _ _).2 b (by omega)];exact m5) (by rfl)
 have k7:Below w1.heap.size w1 X7:=(k5.alloc (by omega) _).grown g7 (by simp;omega) (fun q e=>by cases e;omega);simp only [World.size_alloc] at s7;rw [s5] at s7;replace D1:=(D1.alloc (.cells #[.int .i64 (n:Int),.int .i64 ((n:Int)+1)] 3)).grown g7 (by simp);replace D2:=(D2.alloc (.cells #[.int .i64 (n:Int),.int .i64 ((n:Int)+1)] 3)).grown g7 (by simp;omega);replace D3:=D3.grown g7 (by simp;omega)
 have p1:=(BX.out.call k1).1.cell 2;have p3:=(BX.out.call k3).1.cell 2;have p5:=(BX.out.call k5).1.cell 2;have p7:=(BX.out.call k7).1.cell 0;have p7':=(BX.out.call k7).1.cell 3
 have HO:∃(q i0:Nat) (zs:List Nat),1≤zs.length∧zs.length≤2∧yY k n m=zs++[m]∧(∀j,y5 (zs++[m]) j≤(zs++[m]).getD j m∧(zs++[m]).getD j m≤m∧(j<zs.length+1→y5 (zs++[m]) j<(zs++[m]).getD j 0))∧Instr.findNow (.int .i64) k (((#[]:Array MapEntry).push ⟨.int .i64 1,.slice (some ⟨b+1,0,none⟩) 1 1,0⟩).push ⟨.int .i64 2,.slice (some ⟨b+1+1,0,none⟩) 1 1,0+1⟩ |>.push ⟨.int .i64 3,.slice (some ⟨b+1+1+1,0,none⟩) 2 2,0+1+1⟩).toList 0=some (some (i0,.slice (some ⟨q,0,none⟩) zs.length zs.length))∧qH X7 (g+1) (.slice (some ⟨q,0,none⟩) zs.length zs.length) (zs.map Int.ofNat):=by
  have gb:g+1≤b:=by rw [←hbz];exact hhw
  rcases hkl2 with ⟨rfl,hmv⟩|⟨rfl,hmv⟩|⟨rfl,hmv⟩
  ·exact ⟨b+1,0,[n],by simp,by simp,by unfold yY;rfl,zkP (by omega) (by omega),rfl,⟨rfl,.inr ⟨b+1,1,_,rfl,by omega,D1,Nat.le_refl _,by unfold maxLen;omega,rfl,rfl⟩⟩⟩
  ·exact ⟨b+1+1,1,[nn],by simp,by simp,by unfold yY;rw [HNN.out];rfl,zkP (by omega) (by omega),rfl,⟨rfl,.inr ⟨b+1+1,1,_,rfl,by omega,D2,Nat.le_refl _,by unfold maxLen;omega,rfl,rfl⟩⟩⟩
  ·exact ⟨b+1+1+1,2,[n,n+1],by simp,by simp,by unfold yY;rfl,zlz (by omega) (by omega),rfl,⟨rfl,.inr ⟨b+1+1+1,2,_,rfl,by omega,D3,Nat.le_refl _,by unfold maxLen;omega,rfl,by simp⟩⟩⟩
 obtain ⟨q,i0,zs,hz1,hz2,hes,hmono,hfind,hOwn⟩:=HO;have e8:=zjg k _ i0 m7 hfind;have HES:=za (show qw k n l=vx (zs++[m]) l (zs++[m]).length by unfold qw;rw [LX.out,hes]);rw [HES.out];obtain ⟨es,hese⟩:=zc (zs++[m]);have hel:es.length=zs.length+1:=by rw [←hese];simp
 rw [hese] at hmono HES ⊢;have HESE:=za hese;clear hese;have HM:=za hmono;have B7:=za k7;have O7:=za hOwn;clear hmono hfind hes hOwn D1 D2 D3 hkl2 k1 k3 k5 k7 m1 m3 m5 m7 g3 g5 g7;have hs7:g+1≤X7.heap.size:=by omega
 go_wp2_with (at_builtin;refine vA rfl (.tmp 31) (.tmp 35) rfl (g+1) (.slice (some ⟨q,0,none⟩) zs.length zs.length) (zs.map Int.ofNat) (m:Int) _ rfl (O7.out.alloc _) rfl (At.new' (by omega)) (by rw [List.length_map];omega) (by simp;omega) ?_;intro g1 c1 w4 hown hgrow hat hg1;have O8:=za hown;have G8:=za hgrow;clear hown hgrow hat)
 rw [List.length_map] at O8;rw [show (zs.map Int.ofNat++[(m:Int)])=(zs++[m]).map Int.ofNat by simp,HESE.out] at O8;obtain ⟨V,hV⟩:=zc (w4);rw [hV] at O8 G8 ⊢;clear hV;have hq:g+1≤q:=(World.ownsRow.lt O7.out q rfl).1;have PB:=za (((BX.out.call B7.out).1.alloc (.cells #[.int .i64 (m:Int)] 3)).grown G8.out (by simp [Value.ownBlock];omega));have BW:=za ((((F.out.out.1.trans (B7.out.mono (show g≤_ by omega))).alloc (by omega) (.cells #[.int .i64 (m:Int)] 3)).grown G8.out (by simp;omega) (fun k e=>by simp [Value.ownBlock] at e;omega)))
 have LV:=za (HX.out.below (show Below w.heap.size w V by rw [hg];exact BW.out));have hsV:=G8.out.size;simp only [World.size_alloc] at hsV;clear O7 G8 B7 F BX p1 p3 p5 p7 p7' e3 e5 e7 e8 hmm
 go_loopw [4,5,7,38] (fun v t _ i wr=>∃j:Nat,j≤zs.length+1∧i=.int .i64 j∧t=.int .i64 (y5 es j:Nat)∧Hid (Zt wr V.heap.size v (vx es l j))∧Hid (Below V.heap.size V wr)) (fun _ _ _ i _=>zs.length+1-(intOf i).toNat)
 case atStart=>exact ⟨0,by omega,rfl,rfl,za ⟨[],World.ownsRow_nil _ _ _ _,fun j r hr=>by simp [vx] at hr⟩,za (Below.refl _ _)⟩
 case round =>
  obtain ⟨j,hj,rfl,rfl,HO,HB⟩:=hrel
  by_cases hlt:j<zs.length+1
  ·have hlt':(j:Int)<(zs.length:Int)+1:=by omega
   obtain ⟨e,he⟩:=zc (es.getD j 0);obtain ⟨a,ha⟩:=zc (y5 es j);have hae:a<e:=by rw [←he,←ha];exact (HM.out j).2.2 hlt
   have hem:e≤m:=by have:=(HM.out j).2.1;rw [List.getD_eq_getElem?_getD] at he this;rw [List.getElem?_eq_getElem (by omega)] at he this;simp at he this;omega
   have hej:es[j]?=some e:=by rw [←he,List.getD_eq_getElem?_getD,List.getElem?_eq_getElem (by omega)];rfl
   have x0:wr.cell? ⟨g1,j,none⟩=some (.int .i64 (e:Int)):=by
    obtain ⟨b', o', e', hc⟩:=(O8.out.ints.below HB.out).2.2 (by omega);cases e';have:=hc j (e:Int) (by rw [List.getElem?_map,hej];rfl)
    rwa [Nat.zero_add] at this
   have p3:=(PB.out.below HB.out).cell 3;have hc1:=O8.out.ints.2.1;have CL:=za (zcO bA (oA+a) (e-a) (c-a) _ (by omega) wr (zU.part (LV.out.below HB.out) a e (by omega) hem));have HT:=za (show vx es l j++[(l.take e).drop a]=vx es l (j+1) by rw [zgz];unfold Jp;rw [he,ha]);have hP:=show y5 es (j+1)=e by unfold y5;rw [if_neg (by omega)];exact he
   rw [ha];obtain ⟨r,hr⟩:=zc ((l.take e).drop a);rw [hr] at CL HT;clear he ha hej hr;have hae':(a:Int)≤(e:Int):=by omega
   have hec:(e:Int)≤(c:Int):=by omega
   go_wp2_with fail;refine CL.out.mono ?_;rintro _ w2 ⟨u,rfl,ho,hb⟩;obtain ⟨Au,cu,rfl⟩:=vu ho;have hsz:=HB.out.size;have O2:=za (HO.out.below hb);have U2:=za (Qv ho (show V.heap.size≤wr.heap.size from hsz));have B2:=za (zq HB.out hsz hb);have hsz2:=B2.out.size;have hcl:(vx es l j).length≤1000:=by rw [QH];omega
   clear ho hb x0 p3;go_wp2_with (at_builtin;refine za7 rfl (.tmp 42) (.tmp 49) rfl V.heap.size u4 _ _ (.slice Au r.length cu) _ rfl (Zt.alloc O2.out _) (U2.out.alloc _) rfl (At.new _ _ _) hcl (by simp;omega) ?_;intro v3 w3 hown hgrow hat;have O3:=za hown;have B3:=za (((B2.out.alloc hsz2 _).grown hgrow (by simp;omega) (fun k hk=>(Zt.lt O2.out k hk))));clear hown hgrow hat)
   rw [HT.out] at O3;go_wp2_with fail;go_roundw
   case rel=>exact ⟨j+1,by omega,by go_num,by rw [hP],O3,B3⟩
   case measure=>simp [intOf];omega
  ·obtain rfl:j=zs.length+1:=by omega
   have hlt':¬(((zs.length+1:Nat):Int)<(zs.length:Int)+1):=by omega
   go_wp2_with fail;go_ret;exact ⟨u4,rfl,by rw [hg,HES.out,hel];exact Zt.base HO.out (by omega),by rw [hg];exact BW.out.trans (HB.out.mono (by omega))⟩
end
theorem Xap {P:Prop} (h:P:=by
 go_wp2_with fail;go_ret;exact ⟨rfl,by rw [hg];exact F.out.out.1⟩) : P := h
section
attribute [local go_sem] Oper.semAt_some
def QZ (x : Int) : Bool := decide (17179869184 < x) || decide (x < -17179869184)
theorem zev (x : Int) (w : World) : Calls Tryz.prog 128 #[x] w fun e w' => e = .returned (.bool (QZ x)) ∧ w = w' := by
 by_cases h : 17179869184 < x
 ·have e : QZ x = true := by unfold QZ; rw [decide_eq_true h]; rfl
  rw [e]; clear e;go_enter Tryz.func128, Tryz.ntmps128;exact XaA
 ·have e : QZ x = decide (x < -17179869184) := by unfold QZ; rw [decide_eq_false h]; rfl
  rw [e]; clear e;go_enter Tryz.func128, Tryz.ntmps128;exact XaA
theorem zik (args:Array Value) (W:World):(callFunc 128 args).run Tryz.prog W=.ok (.enter 128 args) W:=enters_of Tryz.func128 (by kernel_rfl) rfl args W
theorem zcw (k s n:Int) (A:Option Addr) (m c:Nat) (l:List Int) (hm:m≤1000) (w:World) (hx:zU w A m c l) (hok:zQ k s n l=false) :
  Calls Tryz.prog 129 #[qV k s n A m c] w fun e w'=>e=.returned (.slice none 0 0)∧Below w.heap.size w w':=by
 have R:=za (fun W h=>Zd k s n A m c l (by omega) W h);rw [hok] at R;have HX:=za hx;clear hx hok;have hu:=Tryz.underlying47;unfold qV at R ⊢;go_enter Tryz.func129,Tryz.ntmps129;go_wp2_with fail;obtain ⟨W0,hW0⟩:=zc ((w.alloc (.cells #[k,s,n,.slice A m c] 47)));obtain ⟨bx,b0,hsz⟩:=z6 hW0;rw [hW0];clear hW0;have F:=za ((Off.start b0 hsz).argI b0 (HX.out));have BX:=za bx;clear bx b0 hsz
 obtain ⟨g,hg⟩:=zc (w.heap.size);rw [hg] at F BX
 try simp only [hg]
 refine (R.out _ F.out.out.2).mono ?_;rintro e w1 ⟨rfl,hb⟩;replace F:=zd F hb;replace BX:=ze BX hb;clear hb;exact Xap
def zaU (p:List Int) (i:Nat):Bool:=decide (p.getD i 0<65536)
def vi (n:Nat) (p:List Int) (j:Nat):Bool:=(List.range j).any fun i=>zaU p (i*n+i)
def zdf (k:Int) (n:Nat) (l:List Int):List Int:=(qw k n l).getD 1 []
def jQ (k s n:Int) (l:List Int):Int:=if zQ k s n l=false then 1 else if l.any QZ=true then 3 else if k=3 then (if zaU (zdf k n.toNat l) 0=true then 9 else 0) else if vi n.toNat (zdf k n.toNat l) n.toNat=true then 9 else 0
theorem zes (n:Nat) (p:List Int) (j:Nat):vi n p (j+1)=(vi n p j || zaU p (j*n+j)):=by unfold vi;rw [List.range_succ];simp
theorem zcv (k s n:Int) (A:Option Addr) (m c:Nat) (l:List Int) (hm:m≤1000) (w:World) (hx:zU w A m c l) (hok:zQ k s n l=false) :
  Calls Tryz.prog 103 #[qV k s n A m c] w fun e w'=>e=.returned (.int .i64 1)∧Below w.heap.size w w':=by
 have q107:∀(w:World) (a:Option Addr) (n c n' c':Nat),(binOp .eql 107 (.slice a n c) (.slice none n' c')).run Tryz.prog w=.ok a.isNone w:=fun w a n c n' c'=>Lib.run_eql_slice_nil w _ _ a n c n' c' Tryz.underlying107;have R:=za (fun W h=>zcw k s n A m c l hm W h hok);have HX:=za hx;clear hx hok;have hu:=Tryz.underlying47;unfold qV at R ⊢;go_enter Tryz.func103,Tryz.ntmps103;go_wp2_with fail
 obtain ⟨W0,hW0⟩:=zc ((w.alloc (.cells #[k,s,n,.slice A m c] 47)));obtain ⟨bx,b0,hsz⟩:=z6 hW0;rw [hW0];clear hW0;have F:=za ((Off.start b0 hsz).argI b0 (HX.out));have BX:=za bx;clear bx b0 hsz;obtain ⟨g,hg⟩:=zc (w.heap.size);rw [hg] at F BX
 try simp only [hg]
 try go_wp2_with fail
 have x0:=(BX.out.1).cell 0;have x1:=(BX.out.1).cell 1;have x2:=(BX.out.1).cell 2;have x3:=(BX.out.1).cell 3
 try go_wp2_with fail
 refine (R.out _ F.out.out.2).mono ?_;rintro e w1 ⟨rfl,hb⟩;replace F:=zd F hb;replace BX:=ze BX hb;clear hb x0 x1 x2 x3;exact Xap
theorem zks {n:Nat} {p:List Int} {j N:Nat} {q:Int} (h:vi n p (j+1)=decide (q<65536)) (hq:q<65536) (hj:j<N):vi n p N=true:=by
 rw [decide_eq_true hq] at h;unfold vi at h ⊢;rw [List.any_eq_true] at h ⊢;obtain ⟨i,hi,hl⟩:=h;exact ⟨i,by rw [List.mem_range] at hi ⊢;omega,hl⟩
theorem zeT {k s:Int} {n:Nat} {l:List Int} (h:zQ k s n l=true):∃p,(qw k n l)[1]?=some p∧zdf k n l=p∧0<p.length∧(k≠3→p.length=n*n)∧2≤(qw k n l).length:=by
 obtain ⟨h1,h4,_,_,_,hk⟩:=zX h;have hn:n=1∨n=2∨n=3∨n=4:=by omega
 have key:∀p,(qw k n l)[1]?=some p→zdf k n l=p:=fun p hp=>by unfold zdf;rw [List.getD_eq_getElem?_getD,hp];rfl
 have key2:(qw k n l)[1]?=some (Jp (yY k n l.length) l 1)∧2≤(qw k n l).length:=by
  have h2:2≤(yY k n l.length).length:=by unfold yY;split;simp;split<;>simp
  unfold qw;refine ⟨?_,by rw [QH];exact h2⟩;unfold vx;rw [List.getElem?_map,List.getElem?_range (by omega)];rfl
 refine ⟨_,key2.1,key _ key2.1,?_⟩;have hb:∀b:Nat,((n:Int)*n=(b:Int))→n*n=b:=fun b e=>by exact_mod_cast e
 rcases hk with ⟨rfl,hl⟩|⟨rfl,hl⟩|⟨rfl,hl⟩<;>rcases hn with rfl|rfl|rfl|rfl<;>(have hl2:l.length=_:=Int.ofNat.inj hl;simp [Jp,yY,y5,hl2,key2.2])
theorem zcu (k s:Int) (n:Nat) (A:Option Addr) (m c:Nat) (l:List Int) (w:World) (hx:zU w A m c l) (hok:zQ k s n l=true) :
  Calls Tryz.prog 103 #[qV k s n A m c] w fun e w'=>e=.returned (.int .i64 (jQ k s n l))∧Below w.heap.size w w':=by
 have q107:∀(w:World) (a:Option Addr) (n c n' c':Nat),(binOp .eql 107 (.slice a n c) (.slice none n' c')).run Tryz.prog w=.ok a.isNone w:=fun w a n c n' c'=>Lib.run_eql_slice_nil w _ _ a n c n' c' Tryz.underlying107;obtain ⟨hn1,hn4,_,_,_,hkl⟩:=zX hok;obtain ⟨p,hp1,hp2,hp0,hpn,hp3⟩:=zeT hok;have hn:n=1∨n=2∨n=3∨n=4:=by omega
 have hnn:n*n≤16:=by rcases hn with rfl|rfl|rfl|rfl<;>omega
 have hm:m≤1000:=by
  have:(n:Int)*n≤16:=by exact_mod_cast hnn
  rw [hx.1,Int.mul_assoc] at hkl;omega
 have R:=za (fun W h=>Qe k s n A m c l W h hok);have C:=za (fun W h=>vY 128 QZ zev zik A m c l (by omega) W h)
 have D:=za (show jQ k s n l=if l.any QZ=true then 3 else if k=3 then (if zaU p 0=true then 9 else 0) else if vi n p n=true then 9 else 0 by
  unfold jQ;rw [if_neg (by rw [hok];simp),Int.toNat_natCast,hp2])
 obtain ⟨rs,hrs⟩:=zc (qw k n l);obtain ⟨r,hr⟩:=zc (jQ k s n l);obtain ⟨u,hu1⟩:=zc (l.any QZ);rw [hrs] at R hp1 hp3;rw [hr,hu1] at D;rw [hr];simp only [hu1] at C;have HX:=za hx;have HP:=za hp1;have HPN:=za hpn;clear hx hok hkl hp1 hp2 hr hu1 hrs hpn;have hu:=Tryz.underlying47;unfold qV at R ⊢;go_enter Tryz.func103,Tryz.ntmps103;go_wp2_with fail;obtain ⟨W0,hW0⟩:=zc ((w.alloc (.cells #[k,s,.int .i64 (n:Int),.slice A m c] 47)))
 obtain ⟨bx,b0,hsz⟩:=z6 hW0;rw [hW0];clear hW0;have F:=za ((Off.start b0 hsz).argI b0 (HX.out));have BX:=za bx;clear bx b0 hsz;obtain ⟨g,hg⟩:=zc (w.heap.size);rw [hg] at F BX
 try simp only [hg]
 try go_wp2_with fail
 have x0:=(BX.out.1).cell 0;have x1:=(BX.out.1).cell 1;have x2:=(BX.out.1).cell 2;have x3:=(BX.out.1).cell 3
 try go_wp2_with fail
 refine (R.out _ F.out.out.2).mono ?_;rintro e w1 ⟨v,rfl,ho,hb⟩;replace F:=zd F hb;replace BX:=ze BX hb;have OP:=za ho;clear hb x0 x1 x2 x3 ho;obtain ⟨g1,c1,A1,c1', rfl,hg1,hgl,hc1,hcell,hoi⟩:=OP.out.at_ HP.out
 obtain ⟨g2,rfl⟩:∃g2,A1=some ⟨g2,0,none⟩:=by
  obtain ⟨g2,cap,e,_⟩:=qk hoi hp0;injection e with e1 e2 e3;exact ⟨g2,e1⟩
 have P1:=za hoi.ints;have CE:=za hcell;clear hoi hcell;have x0:=(BX.out.1).cell 0;have x1:=(BX.out.1).cell 1;have x2:=(BX.out.1).cell 2;have x3:=(BX.out.1).cell 3;go_wp2_with fail;refine (C.out _ F.out.out.2).mono ?_;rintro e w' ⟨rfl,rfl⟩;clear C R OP;cases u
 case true =>
  have E:=D.out;rw [if_pos rfl] at E;subst E;exact Xap
 by_cases k3:k=3
 case pos =>
  subst k3;have E:=D.out;rw [if_neg (by simp),if_pos rfl] at E;obtain ⟨p0,hp⟩:∃p0,p[0]?=some p0:=⟨_,List.getElem?_eq_getElem hp0⟩
  have hl:zaU p 0=decide (p0<65536):=by unfold zaU;rw [List.getD_eq_getElem?_getD,hp];rfl
  rw [hl] at E
  have y0:World.cell? w1 ⟨g2,0,none⟩=some (.int .i64 p0):=by
   obtain ⟨b', o', e', hc⟩:=P1.out.2.2 hp0;cases e';exact hc 0 p0 hp
  have cc:=CE.out;have hl1:=P1.out.2.1
  by_cases hlow:p0<65536
  ·rw [if_pos (by simpa using hlow)] at E
   subst E;exact Xap
  ·rw [if_neg (by simpa using hlow)] at E
   subst E;exact Xap
 have k3':(k==3)=false:=beq_eq_false_iff_ne.mpr k3
 have E9:=za (show r=if vi n p n=true then 9 else 0 by
  have E:=D.out
  rwa [if_neg (by simp),if_neg k3] at E)
 have hpl:p.length=n*n:=HPN.out k3;clear D;go_wp2_with fail;obtain ⟨V,hV⟩:=zc (w1);rw [hV] at F BX P1 CE x0 x1 x2 x3 ⊢;clear hV
 go_loopw [5,34] (fun _ i wr=>∃j:Nat,j≤n∧i=.int .i64 j∧Hid (vi n p j=false)∧Hid (Below V.heap.size V wr)) (fun _ i _=>n-(intOf i).toNat)
 case atStart=>exact ⟨0,by omega,rfl,za rfl,za (Below.refl _ _)⟩
 case round =>
  obtain ⟨j,hj,rfl,HD,HB⟩:=hrel
  by_cases hlt:j<n
  ·have hlt':(j:Int)<(n:Int):=by omega
   obtain ⟨a,ha⟩:=zc (j*n);have hai:(j:Int)*(n:Int)=(a:Int):=by rw [←ha];simp
   have hap:a+j<p.length:=by
    have:=Nat.mul_le_mul_right n (show j+1≤n from hlt);rw [Nat.add_mul,Nat.one_mul] at this;omega
   have ha16:a≤16:=by omega
   obtain ⟨q,hq⟩:∃q,p[a+j]?=some q:=⟨_,List.getElem?_eq_getElem hap⟩
   have HL:=za (show vi n p (j+1)=decide (q<65536) by rw [zes,HD.out,ha];unfold zaU;rw [List.getD_eq_getElem?_getD,hq];rfl)
   have y0:World.cell? wr ⟨g2,a+j,none⟩=some (.int .i64 q):=by
    obtain ⟨b', o', e', hc⟩:=(P1.out.below HB.out).2.2 hp0;cases e';have:=hc (a+j) q hq
    rwa [Nat.zero_add] at this
   have cc:=zR HB.out _ _ _ CE.out;have z2:=(BX.out.call HB.out).1.cell 2;have hl1:=P1.out.2.1;clear hq ha;go_wp2_with fail;refine qW (by kernel_rfl) (by kernel_rfl) ?_;have ky0:=fun x=>Ext.cell y0 x;have kcc:=fun x=>Ext.cell cc x;have kz2:=fun x=>Ext.cell z2 x
   repeat (go_big_quiet_step (fail))
   refine wpQuiet_nil ?_;rintro _ ⟨x,rfl⟩;clear ky0 kcc kz2 y0 cc z2;have B2:=za (zq HB.out HB.out.size x.below)
   by_cases hlow:q<65536
   ·have E:=E9.out
    rw [if_pos (zks HL.out hlow hlt)] at E;subst E;go_wp2_with fail;go_ret;exact ⟨rfl,by rw [hg];exact F.out.out.1.trans (B2.out.mono (by have:=(F.out.out.1).size;omega))⟩
   ·have H2:=za (show vi n p (j+1)=false by rw [HL.out];exact decide_eq_false hlow)
    go_wp2_with fail;go_roundw
    case rel=>exact ⟨j+1,by omega,by go_num,H2,B2⟩
    case measure=>simp [intOf];omega
  ·obtain rfl:j=n:=by omega
   have E:=E9.out;rw [if_neg (by rw [HD.out];simp)] at E;subst E;go_wp2_with fail;go_ret;exact ⟨rfl,by rw [hg];exact F.out.out.1.trans (HB.out.mono (by have:=(F.out.out.1).size;omega))⟩
end
theorem Xbd {P:Prop} (h:P:=by
 have h6':((n:Int)==pn)=true:=beq_iff_eq.mpr h6;have h6n:((n:Int)!=pn)=false:=by rw [h6];exact bne_self_eq_false _
 subst E;exact Xap) : P := h
theorem Xbr {P:Prop} (h:P:=by
 have h6':((n:Int)==pn)=false:=beq_eq_false_iff_ne.mpr h6;have h6n:((n:Int)!=pn)=true:=bne_iff_ne.mpr h6;subst E;exact Xap) : P := h
section
attribute [local go_sem] Oper.semAt_some
theorem Qd (k s n:Int) (A:Option Addr) (m c:Nat) (l:List Int) (hm:m≤1000) (w:World) (hx:zU w A m c l) :
  Calls Tryz.prog 103 #[qV k s n A m c] w fun e w'=>e=.returned (.int .i64 (jQ k s n l))∧Below w.heap.size w w':=by
 cases hok:zQ k s n l with
 | false =>
  refine (zcv k s n A m c l hm w hx hok).mono ?_;rintro e w' ⟨rfl,hb⟩;exact ⟨by unfold jQ;rw [if_pos hok],hb⟩
 | true =>
  have h1:=(zX hok).1;obtain ⟨N,rfl⟩:∃N:Nat,n=(N:Int):=⟨n.toNat,by omega⟩
  exact zcu k s N A m c l w hx hok
def Jj (on:Bool) (pn ps:Int):Value:=.agg #[.bool on,pn,ps]
def Zb (on:Bool) (pn ps k s n:Int) (l:List Int):Int :=
 if ¬jQ k s n l=0 then jQ k s n l else if k=1 then (if on=true then (if s≤ps then 7 else 0) else 0) else if on=false then 10
 else if s=ps+1 then (if n=pn then 0 else 8) else if s=0 then (if ps=4294967295 then (if n=pn then 0 else 8) else 7) else 7
theorem ZT (on : Bool) (pn ps k s n : Int) (hps : 0 ≤ ps ∧ ps ≤ 4294967295) (A : Option Addr) (m c : Nat) (l : List Int) (hm : m ≤ 1000) (w : World) (hx : zU w A m c l) :
  Calls Tryz.prog 75 #[Jj on pn ps, qV k s n A m c] w fun e w' => e = .returned (.int .i64 (Zb on pn ps k s n l)) ∧ Below w.heap.size w w' := by
 have R := za (fun W h => Qd k s n A m c l hm W h)
 have D := za (show Zb on pn ps k s n l = if ¬ jQ k s n l = 0 then jQ k s n l else if k = 1 then (if on = true then (if s ≤ ps then 7 else 0) else 0) else if on = false then 10
  else if s = ps + 1 then (if n = pn then 0 else 8) else if s = 0 then (if ps = 4294967295 then (if n = pn then 0 else 8) else 7) else 7 from rfl)
 obtain ⟨r, hr⟩ := zc (Zb on pn ps k s n l);obtain ⟨u, hu1⟩ := zc (jQ k s n l);rw [hr, hu1] at D;rw [hr];simp only [hu1] at R;obtain ⟨hps0, hps1⟩ := hps;have HX := za hx;clear hx hr hu1;have hu := Tryz.underlying47;have hu3 := Tryz.underlying94;unfold qV at R;unfold qV Jj;go_enter Tryz.func75, Tryz.ntmps75;go_wp2_with fail;obtain ⟨W0, hW0⟩ := zc (((w.alloc (.cells #[.bool on, pn, ps] 94)).alloc (.cells #[k, s, n, .slice A m c] 47)))
 obtain ⟨bx, b0, hsz⟩ := y7 hW0;rw [hW0];clear hW0;have F := za ((Off.start b0 hsz).argI b0 (HX.out));have BX := za bx;clear bx b0 hsz;obtain ⟨g, hg⟩ := zc (w.heap.size);rw [hg] at F BX
 try simp only [hg]
 try go_wp2_with fail
 refine (R.out _ F.out.out.2).mono ?_;rintro e w1 ⟨rfl, hb⟩;replace F := zd F hb;replace BX := ze BX hb;clear hb;have p0 := (BX.out.1).cell 0;have p1 := (BX.out.1).cell 1;have p2 := (BX.out.1).cell 2;have x0 := (BX.out.2.1).cell 0;have x1 := (BX.out.2.1).cell 1;have x2 := (BX.out.2.1).cell 2;have x3 := (BX.out.2.1).cell 3;clear R;have E := D.out;clear D
 by_cases h0 : ¬ u = 0
 ·rw [if_pos h0] at E
  have h0n : (u != 0) = true := bne_iff_ne.mpr h0;subst E;exact Xap
 ·rw [if_neg h0] at E
  have h0n : (u != 0) = false := by rw [Classical.not_not.mp h0]; rfl
  by_cases h1 : k = 1
  ·rw [if_pos h1] at E
   have h1' : ((k : Int) == 1) = true := beq_iff_eq.mpr h1;have h1n : ((k : Int) != 1) = false := by rw [h1]; exact bne_self_eq_false _
   cases on with
   | true =>
    rw [if_pos rfl] at E
    by_cases h2 : s ≤ ps
    ·rw [if_pos h2] at E
     subst E;exact Xap
    ·rw [if_neg h2] at E
     subst E;exact Xap
   | false =>
    rw [if_neg (by simp)] at E;subst E;exact Xap
  ·rw [if_neg h1] at E
   have h1' : ((k : Int) == 1) = false := beq_eq_false_iff_ne.mpr h1;have h1n : ((k : Int) != 1) = true := bne_iff_ne.mpr h1;cases on with
   | false =>
    rw [if_pos rfl] at E;subst E;exact Xap
   | true =>
    rw [if_neg (by simp)] at E
    by_cases h3 : s = ps + 1
    ·rw [if_pos h3] at E
     have h3' : ((s : Int) == ps + 1) = true := beq_iff_eq.mpr h3;have h3n : ((s : Int) != ps + 1) = false := by rw [h3]; exact bne_self_eq_false _
     by_cases h6 : n = pn
     ·rw [if_pos h6] at E
      exact Xbd
     ·rw [if_neg h6] at E
      exact Xbr
    ·rw [if_neg h3] at E
     have h3' : ((s : Int) == ps + 1) = false := beq_eq_false_iff_ne.mpr h3;have h3n : ((s : Int) != ps + 1) = true := bne_iff_ne.mpr h3
     by_cases h4 : s = 0
     ·rw [if_pos h4] at E
      have h4' : ((s : Int) == 0) = true := beq_iff_eq.mpr h4;have h4n : ((s : Int) != 0) = false := by rw [h4]; exact bne_self_eq_false _
      by_cases h5 : ps = 4294967295
      ·rw [if_pos h5] at E
       have h5' : ((ps : Int) == 4294967295) = true := beq_iff_eq.mpr h5;have h5n : ((ps : Int) != 4294967295) = false := by rw [h5]; exact bne_self_eq_false _
       by_cases h6 : n = pn
       ·rw [if_pos h6] at E
        exact Xbd
       ·rw [if_neg h6] at E
        exact Xbr
      ·rw [if_neg h5] at E
       have h5' : ((ps : Int) == 4294967295) = false := beq_eq_false_iff_ne.mpr h5;have h5n : ((ps : Int) != 4294967295) = true := bne_iff_ne.mpr h5;subst E;exact Xap
     ·rw [if_neg h4] at E
      have h4' : ((s : Int) == 0) = false := beq_eq_false_iff_ne.mpr h4;have h4n : ((s : Int) != 0) = true := bne_iff_ne.mpr h4;subst E;exact Xap
theorem VN (on:Bool) (pn ps k s n:Int) (hps:0≤ps∧ps≤4294967295) (A:Option Addr) (m c:Nat) (l:List Int) (hm:m≤1000) (w:World) (hx:zU w A m c l) (h0:Zb on pn ps k s n l=0) :
  Calls Tryz.prog 104 #[Jj on pn ps,qV k s n A m c] w fun e w'=>e=.returned (Jj true n s)∧Below w.heap.size w w':=by
 have R:=za (fun W h=>ZT on pn ps k s n hps A m c l hm W h);rw [h0] at R;have HX:=za hx;clear hx h0;have hu:=Tryz.underlying47;have hu3:=Tryz.underlying94;unfold qV Jj at R;unfold qV Jj;go_enter Tryz.func104,Tryz.ntmps104;go_wp2_with fail;obtain ⟨W0,hW0⟩:=zc ((((w.alloc (.cells #[.bool on,pn,ps] 94)).alloc (.cells #[k,s,n,.slice A m c] 47)).alloc (.cells #[.bool false,.int .i64 0,.int .i64 0] 94)))
 obtain ⟨bx,b0,hsz⟩:=Jq hW0;rw [hW0];clear hW0;have F:=za ((Off.start b0 hsz).argI b0 (HX.out));have BX:=za bx;clear bx b0 hsz;obtain ⟨g,hg⟩:=zc (w.heap.size);rw [hg] at F BX
 try simp only [hg]
 try go_wp2_with fail
 refine (R.out _ F.out.out.2).mono ?_;rintro e w1 ⟨rfl,hb⟩;replace F:=zd F hb;replace BX:=ze BX hb;clear hb;have x0:=(BX.out.2.1).cell 0;have x1:=(BX.out.2.1).cell 1;have x2:=(BX.out.2.1).cell 2;have x3:=(BX.out.2.1).cell 3;have z0:=(BX.out.2.2.1).cell 0;have zz0:=(BX.out.2.2.1).frozen 0;have z1:=(BX.out.2.2.1).cell 1;have zz1:=(BX.out.2.2.1).frozen 1;have z2:=(BX.out.2.2.1).cell 2
 have zz2:=(BX.out.2.2.1).frozen 2;go_wp2_with fail;have F9:=F.out.set3 (g:=g+1+1) (.inl (by omega)) (.bool true) n s;obtain ⟨d0,d1,d2⟩:=((BX.out.2.2.1).set3 (.bool true) n s).three;exact bodyPost_ret (v:=.agg #[.bool true,n,s]) (by simp [results,Tryz.results104,go_sem,d0,d1,d2]) rfl ⟨rfl,by rw [hg];exact F9.out.1⟩
end
end Go.Proofs.YtcoiklclbljjeaaGreatDoor.L
