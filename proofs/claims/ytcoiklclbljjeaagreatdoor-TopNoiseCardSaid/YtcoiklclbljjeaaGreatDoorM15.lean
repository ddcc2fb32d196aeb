/- Lemmas of the card's proof. -/
import Derived.Test.YtcoiklclbljjeaaGreatDoorM14
set_option linter.unusedVariables false
set_option linter.unusedSimpArgs false
set_option maxRecDepth 100000
set_option maxHeartbeats 16000000
namespace Go.Proofs.YtcoiklclbljjeaaGreatDoor.L
open Go.RowKit
theorem XaZ {P:Prop} (h:P:=by
 go_wp2_with fail;go_roundw
 case rel=>exact ⟨j+1,by omega,by go_num,_,HF⟩
 case measure=>simp [intOf];omega) : P := h
theorem Xbv {P:Prop} (h:P:=by
 go_wp2_with fail;go_roundw
 case rel=>exact ⟨k+1,by omega,by go_num,_,H⟩
 case measure=>simp [intOf];omega) : P := h
theorem XbE {P:Prop} (h:P:=by
 rw [hg];exact jd (B2.out.trans (H.out.kb.below (fun k hk=>hSi k (by omega) (by omega)))) (by omega) _ _ _) : P := h
structure ziD (S:Nat→Prop) (W0:World) (go:Nat) (r c:Int) (ys:List Num) (v:Value) (W:World):Prop where
 box:At W go 65 #[r,c,v]
 own:zH W W0.heap.size v ys
 kb:KB S W0 W
theorem jP {w:World} {B q:Nat} {v:Value} {xs:List Num} (h:zH w B v xs) (hq:q<B):some q≠v.ownBlock:=fun e=>by have:=(World.ownsRow.lt h q e.symm).1;omega
theorem zO {v:Value} {q:Nat} (h:some q≠v.ownBlock):q∉v.ownBlock.toList:=by
 cases e:v.ownBlock with
 | none=>simp
 | some z=>rw [e] at h;simpa using fun hq=>h (by rw [hq])
theorem jv (w:World) (b i:Nat) (v:Value):w.grownBy (w.setCell ⟨b,i,none⟩ v) (some b):=⟨rfl,rfl,rfl,by simp [World.setCell],fun k hk hne=>Below.heap_setCell w ⟨b,i,none⟩ v k (fun e=>hne (by rw [e]))⟩
def zcs (c:Nat) (l:List Num) (k i:Nat):List Num:=(List.range i).map fun j=>atM c l j k
def Qh (r c:Nat) (l:List Num) (k:Nat):List Num:=(List.range k).flatMap fun j=>zcs c l j r
def j5 (r c:Nat) (l:List Num):List Num:=Qh r c l c
theorem zir (c:Nat) (l:List Num) (k i:Nat):zcs c l k (i+1)=zcs c l k i++[atM c l i k]:=by unfold zcs;rw [List.range_succ];simp
theorem zfy (c:Nat) (l:List Num) (k i:Nat):(zcs c l k i).length=i:=by simp [zcs]
theorem zaI (r c:Nat) (l:List Num) (k:Nat):Qh r c l (k+1)=Qh r c l k++zcs c l k r:=by unfold Qh;rw [List.range_succ,List.flatMap_append];simp
theorem zbG (r c:Nat) (l:List Num) (k:Nat):(Qh r c l k).length=k*r:=by
 induction k with
 | zero=>simp [Qh]
 | succ k ih=>rw [zaI,List.length_append,ih,zfy,Nat.add_mul,Nat.one_mul]
theorem zt.turn {r c:Nat} {l:List Num} (h:zt r c l):zt c r (j5 r c l):=⟨h.c1,h.c2,h.r1,h.r2,zbG r c l c⟩
theorem Ye (r c:Nat) (A:Option Addr) (n cp:Nat) (l:List Num) (hs:zt r c l) (w:World) (hl:zk w A n cp l):Calls Tryz.prog 122 #[zE r c A n cp] w (QJ c r (j5 r c l) w):=by
 have hu:=Tryz.underlying65;have hu1:=Tryz.underlying71;have R:=za (show ∀W,Calls Tryz.prog 119 #[zE r c A n cp] W fun e w'=>e=.returned (.bool true)∧Below W.heap.size W w' from fun W=>by have:=qI r c A n cp W;rw [hs.right hl.1] at this;exact this);have AT:=za (fun (i k:Nat) (hi:i<r) (hk:k<c) (W:World) (h:zk W A n cp l)=>zd4 r c A n cp l hs i k hi hk W h);have HL:=za hl
 have h256:=hs.prod;have hr16:=hs.r2;have hc16:=hs.c2;clear hl;unfold zE at R AT;unfold zE;go_enter Tryz.func122,Tryz.ntmps122;go_wp2_with fail;have A0:=za ((At.new w 65 #[.int .i64 (r:Int),.int .i64 (c:Int),.slice A n cp]).alloc (.cells #[.int .i64 0,.int .i64 0,.slice none 0 0] 65));have A1:=za (At.new (w.alloc (.cells #[.int .i64 (r:Int),.int .i64 (c:Int),.slice A n cp] 65)) 65 #[.int .i64 0,.int .i64 0,.slice none 0 0])
 have B0:=za (zg (zg (Below.refl w.heap.size w) (.cells #[.int .i64 (r:Int),.int .i64 (c:Int),.slice A n cp] 65)) (.cells #[.int .i64 0,.int .i64 0,.slice none 0 0] 65));obtain ⟨W0,hW0⟩:=zc (((w.alloc (.cells #[.int .i64 (r:Int),.int .i64 (c:Int),.slice A n cp] 65)).alloc (.cells #[.int .i64 0,.int .i64 0,.slice none 0 0] 65)));simp only [World.size_alloc] at A1;have hWg:=za (show W0.heap.size=w.heap.size+2 by rw [←hW0];simp)
 rw [hW0] at A0 A1 B0 ⊢;clear hW0;obtain ⟨g,hg⟩:=zc (w.heap.size);rw [hg] at A0 A1 B0 hWg
 try simp only [hg]
 refine (R.out W0).mono ?_;rintro e w1 ⟨rfl,hb1⟩;obtain ⟨m0,m1,m2⟩:=(A0.out.below hb1).three;have B1:=za (zq B0.out (by rw [hWg.out];omega) hb1);have A0':=za (A0.out.below hb1);have A1':=za (A1.out.below hb1);have hs1:=za hb1.size;clear hb1;obtain ⟨k0,k1,k2⟩:=(A0'.out.alloc (.cells #[.int .i64 (c:Int),.int .i64 (r:Int),.slice none 0 0] 65)).three;go_wp2_with fail;have C0:=za (At.new w1 65 #[.int .i64 (c:Int),.int .i64 (r:Int),.slice none 0 0])
 have D0:=za (zg (Below.refl w1.heap.size w1) (.cells #[.int .i64 (c:Int),.int .i64 (r:Int),.slice none 0 0] 65));obtain ⟨V0,hV0⟩:=zc ((w1.alloc (.cells #[.int .i64 (c:Int),.int .i64 (r:Int),.slice none 0 0] 65)));have hV:=za (show V0.heap.size=w1.heap.size+1 by rw [←hV0];simp);rw [hV0] at C0 D0 ⊢;clear hV0;obtain ⟨h,hh⟩:=zc (w1.heap.size);rw [hh] at C0 D0 hV
 try simp only [hh]
 have B2:=za (zq B1.out (by have:=hs1.out;rw [hWg.out] at this;omega) (by rw [hh];exact D0.out));have A0'':=za (A0'.out.below (by rw [hh];exact D0.out));have A1'':=za (A1'.out.below (by rw [hh];exact D0.out));have hgh:g+2≤h:=by have:=hs1.out;rw [hWg.out,hh] at this;exact this
 have hsz:=hV.out;clear m0 m1 m2 k0 k1 k2 R;obtain ⟨S,hSd⟩:∃S:Nat→Prop,S=fun k=>k<V0.heap.size∧k≠h:=⟨_,rfl⟩
 have hS:∀k,S k→k<V0.heap.size:=fun k h=>by rw [hSd] at h;exact h.1
 have hSo:¬S h:=fun h=>by rw [hSd] at h;exact h.2 rfl
 have hSi:∀k,k<V0.heap.size→k≠h→S k:=fun k h1 h2=>by rw [hSd];exact ⟨h1,h2⟩
 clear hSd;have hBw:Below w.heap.size w V0:=by rw [hg];exact B2.out
 have hSw:∀k,k<w.heap.size→S k:=fun k hk=>hSi k (by rw [hsz];omega) (by omega)
 go_loopw [17] (fun i wr=>∃k:Nat,k≤c∧i=.int .i64 k∧∃v,Hid (ziD S V0 h c r (Qh r c l k) v wr)) (fun i _=>c-(intOf i).toNat)
 case atStart=>exact ⟨0,by omega,rfl,_,za ⟨C0.out,zH.nil_ _ _,KB.refl S V0⟩⟩
 case round =>
  obtain ⟨k,hk,rfl,v,H⟩:=hrel
  by_cases hlt:k<c
  ·have hlt':(k:Int)<(c:Int):=by omega
   obtain ⟨m0,m1,m2⟩:=(H.out.kb.at_ (hSi g (by omega) (by omega)) A0''.out).three;go_wp2_with fail
   go_loopw [22] (fun i wr=>∃j:Nat,j≤r∧i=.int .i64 j∧∃v,Hid (ziD S V0 h c r (Qh r c l k++zcs c l k j) v wr)) (fun i _=>r-(intOf i).toNat)
   case atStart=>exact ⟨0,by omega,rfl,v,za (by simpa [zcs] using H.out)⟩
   case round =>
    obtain ⟨j,hj,rfl,v,H⟩:=hrel
    by_cases hjt:j<r
    ·have hjt':(j:Int)<(r:Int):=by omega
     have HNr:=za ((H.out.kb.nums HL.out hBw hSw));have CA:=za (fun (W:World) (h:zk W A n cp l)=>AT.out j k hjt hlt W h);obtain ⟨rr,hrr⟩:=zc (atM c l j k);have HRR:=za hrr;simp only [hrr] at CA;obtain ⟨L,hL⟩:=zc (Qh r c l k++zcs c l k j);have HLE:=za hL
     have HLL:=za (show L.length≤1000 by
      rw [←hL,List.length_append,zbG,zfy];have:=Nat.mul_le_mul_right r hk;have:=Nat.mul_comm c r;omega)
     rw [hL] at H;obtain ⟨rv,rl,rh,rb⟩:=rr;clear hL hrr;obtain ⟨m0,m1,m2⟩:=(H.out.kb.at_ (hSi g (by omega) (by omega)) A0''.out).three;have o2:=H.out.box.cell 2;have hgo:some h≠v.ownBlock:=jP H.out.own (by omega);have hgg:some g≠v.ownBlock:=jP H.out.own (by omega);go_wp2_with fail;refine je v.ownBlock.toList [0,1,2,3,4] [5,6,7,8,9] (.cons rfl (.cons rfl (.cons rfl (.cons rfl (.cons rfl .nil))))) (.cons rfl (.cons rfl (.cons rfl (.cons rfl (.cons rfl .nil))))) (by kernel_rfl) (by kernel_rfl) (fun c a d v w h=>by cases d<;>exact h) ?_
     have km0:=fun x=>But.cell m0 (zO hgg) x;have km1:=fun x=>But.cell m1 (zO hgg) x;have km2:=fun x=>But.cell m2 (zO hgg) x;have ko2:=fun x=>But.cell o2 (zO hgo) x
     repeat (go_big_quiet_step (fail))
     refine wpQuiet_nil ?_;clear km0 km1 km2 ko2 m0 m1 m2 o2;refine zp rfl (fun K hK=>?_);go_simp;refine (CA.out _ HNr.out.drew).mono ?_;rintro e w3 ⟨rfl,hb3⟩;replace hb3:=qi hb3;refine hK _ _ (zI ((zC.refl _ _).call hb3)) ?_;clear hK K;refine zp rfl (fun K hK=>?_);go_simp;refine hK _ _ (zI (((zC.refl _ _).call hb3).alloc _)) ?_;clear hK K;refine zp rfl (fun K hK=>?_);have hsW:=H.out.kb.size
     refine jZ (.tmp 26) (.tmp 31) rfl V0.heap.size v L ⟨rv,rl,rh,rb⟩ _ rfl ((H.out.own.below hb3).alloc _) rfl (At.new' (by simp)) HLL.out (by have:=hb3.size;simp;omega) ?_;intro g1 cc1 w4 hown4 hgrow4 hat4 hg1';refine hK _ _ (zI ((((zC.refl _ _).call hb3).alloc _).grown hgrow4 (fun k e=>.inl (qR k e)))) ?_;clear hK K;have hbx:=za ((((H.out.box.below hb3).alloc _).grown hgrow4 hgo));have e0:=hbx.out.cell 2
     have z0:=hbx.out.frozen 2;have hrowS:∀k,v.ownBlock=some k→¬S k:=fun k e hk=>by have:=(World.ownsRow.lt H.out.own k e).1;have:=hS k hk;omega
     have hSW:∀k,S k→k<wr.heap.size:=fun k hk=>Nat.lt_of_lt_of_le (hS k hk) hsW;have hkb:=za (((((KB.refl S wr).call hSW hb3).call hSW (zg (Below.refl _ _) _)).grown hSW hgrow4 hrowS));have HO:=za hown4;have HB:=za (((((zC.refl wr v.ownBlock.toList).call hb3).alloc (.cells #[rv,rl,rh,rb] 71)).grown hgrow4 (fun k e=>.inl (qR k e))));clear hown4 hgrow4 hat4 hb3;refine zp rfl (fun K hK=>?_)
     go_simp;refine hK _ _ (zI HB.out) ?_;clear hK K;refine zZ rfl (fun K hK=>?_);go_simp;refine hK _ _ ?_;clear hK K
     have HF:=za (show ziD S V0 h c r (Qh r c l k++zcs c l k (j+1)) (.slice (some ⟨g1,0,none⟩) (L.length+1) cc1) (w4.setCell ⟨h,2,none⟩ (.slice (some ⟨g1,0,none⟩) (L.length+1) cc1)) from
      ⟨hbx.out.set 2 _ rfl,by rw [zir,←List.append_assoc,HLE.out,HRR.out];exact HO.out.kept (jv w4 h 2 _) (.inr (by simp [Value.ownBlock];omega)),(H.out.kb.trans hkb.out).set hSo _ _⟩)
     clear e0 z0 hbx hkb HO;exact XaZ
    ·obtain rfl:j=r:=by omega
     rw [←zaI] at H;exact Xbv
  ·obtain rfl:k=c:=by omega
   obtain ⟨A1,n1,c1,rfl⟩:=zS H.out.own;obtain ⟨s0,s1,s2⟩:=H.out.box.three;have A1r:=za (H.out.kb.at_ (hSi (g+1) (by omega) (by omega)) A1''.out);obtain ⟨r0,r1,r2⟩:=A1r.out.three;have z0:=A1r.out.frozen 0;have z1:=A1r.out.frozen 1;have z2:=A1r.out.frozen 2;go_wp2_with fail;obtain ⟨d0,d1,d2⟩:=(A1r.out.set3 (.int .i64 (k:Int)) (.int .i64 (r:Int)) (.slice A1 n1 c1)).three
   refine bodyPost_ret (v:=.agg #[.int .i64 (k:Int),.int .i64 (r:Int),.slice A1 n1 c1]) (by simp [results,Tryz.results122,go_sem,d0,d1,d2]) rfl ⟨A1,n1,c1,rfl,H.out.own.nums.set3 (w:=w) A1r.out (qQ A1r.out) _ _ _,?_,fun b o e=>Nat.le_trans (show w.heap.size≤V0.heap.size by omega) (zY H.out.own b o e)⟩;exact XbE
theorem ze8 (r c:Nat) (A:Option Addr) (n cp:Nat) (l:List Num) (hs:zt r c l) (w:World) (hl:zk w A n cp l):Calls Tryz.prog 122 #[zE r c A n cp] w (zhp c r (j5 r c l) w):=(Ye r c A n cp l hs w hl).mono fun _ _ h=>h.ret
def ZL (n:Nat) (l:List Num) (i j:Nat):List Num:=(List.range j).map fun k=>atM n l (max i k) (min i k)
def YC (n:Nat) (l:List Num) (k:Nat):List Num:=(List.range k).flatMap fun i=>ZL n l i n
def zjb (n:Nat) (l:List Num):List Num:=YC n l n
theorem ze1 (n:Nat) (l:List Num) (k i:Nat):ZL n l k (i+1)=ZL n l k i++[atM n l (max k i) (min k i)]:=by unfold ZL;rw [List.range_succ];simp
theorem zb1 (n:Nat) (l:List Num) (k i:Nat):(ZL n l k i).length=i:=by simp [ZL]
theorem zb0 (n:Nat) (l:List Num) (k:Nat):YC n l (k+1)=YC n l k++ZL n l k n:=by unfold YC;rw [List.range_succ,List.flatMap_append];simp
theorem zdi (n:Nat) (l:List Num) (k:Nat):(YC n l k).length=k*n:=by
 induction k with
 | zero=>simp [YC]
 | succ k ih=>rw [zb0,List.length_append,ih,zb1,Nat.add_mul,Nat.one_mul]
theorem zt.mir {n:Nat} {l:List Num} (h:zt n n l):zt n n (zjb n l):=⟨h.r1,h.r2,h.c1,h.c2,zdi n l n⟩
theorem zaS (n:Nat) (A:Option Addr) (m cp:Nat) (l:List Num) (hs:zt n n l) (w:World) (hl:zk w A m cp l):Calls Tryz.prog 123 #[zE n n A m cp] w (qM n n (zjb n l) w):=by
 have hu:=Tryz.underlying65;have hu1:=Tryz.underlying71;have R:=za (show ∀W,Calls Tryz.prog 119 #[zE n n A m cp] W fun e w'=>e=.returned (.bool true)∧Below W.heap.size W w' from fun W=>by have:=qI n n A m cp W;rw [hs.right hl.1] at this;exact this);have AT:=za (fun (i k:Nat) (hi:i<n) (hk:k<n) (W:World) (h:zk W A m cp l)=>zd4 n n A m cp l hs i k hi hk W h);have HL:=za hl
 have h256:=hs.prod;have hr16:=hs.r2;clear hl;unfold zE at R AT;unfold zE;go_enter Tryz.func123,Tryz.ntmps123;go_wp2_with fail;have A0:=za ((At.new w 65 #[.int .i64 (n:Int),.int .i64 (n:Int),.slice A m cp]).alloc (.cells #[.int .i64 0,.int .i64 0,.slice none 0 0] 65));have A1:=za (At.new (w.alloc (.cells #[.int .i64 (n:Int),.int .i64 (n:Int),.slice A m cp] 65)) 65 #[.int .i64 0,.int .i64 0,.slice none 0 0])
 have B0:=za (zg (zg (Below.refl w.heap.size w) (.cells #[.int .i64 (n:Int),.int .i64 (n:Int),.slice A m cp] 65)) (.cells #[.int .i64 0,.int .i64 0,.slice none 0 0] 65));obtain ⟨W0,hW0⟩:=zc (((w.alloc (.cells #[.int .i64 (n:Int),.int .i64 (n:Int),.slice A m cp] 65)).alloc (.cells #[.int .i64 0,.int .i64 0,.slice none 0 0] 65)));simp only [World.size_alloc] at A1;have hWg:=za (show W0.heap.size=w.heap.size+2 by rw [←hW0];simp)
 rw [hW0] at A0 A1 B0 ⊢;clear hW0;obtain ⟨g,hg⟩:=zc (w.heap.size);rw [hg] at A0 A1 B0 hWg
 try simp only [hg]
 refine (R.out W0).mono ?_;rintro e w1 ⟨rfl,hb1⟩;obtain ⟨m0,m1,m2⟩:=(A0.out.below hb1).three;have B1:=za (zq B0.out (by rw [hWg.out];omega) hb1);have A0':=za (A0.out.below hb1);have A1':=za (A1.out.below hb1);have hs1:=za hb1.size;clear hb1;obtain ⟨k0,k1,k2⟩:=(A0'.out.alloc (.cells #[.int .i64 (n:Int),.int .i64 (n:Int),.slice none 0 0] 65)).three;go_wp2_with fail;have C0:=za (At.new w1 65 #[.int .i64 (n:Int),.int .i64 (n:Int),.slice none 0 0])
 have D0:=za (zg (Below.refl w1.heap.size w1) (.cells #[.int .i64 (n:Int),.int .i64 (n:Int),.slice none 0 0] 65));obtain ⟨V0,hV0⟩:=zc ((w1.alloc (.cells #[.int .i64 (n:Int),.int .i64 (n:Int),.slice none 0 0] 65)));have hV:=za (show V0.heap.size=w1.heap.size+1 by rw [←hV0];simp);rw [hV0] at C0 D0 ⊢;clear hV0;obtain ⟨h,hh⟩:=zc (w1.heap.size);rw [hh] at C0 D0 hV
 try simp only [hh]
 have B2:=za (zq B1.out (by have:=hs1.out;rw [hWg.out] at this;omega) (by rw [hh];exact D0.out));have A0'':=za (A0'.out.below (by rw [hh];exact D0.out));have A1'':=za (A1'.out.below (by rw [hh];exact D0.out));have hgh:g+2≤h:=by have:=hs1.out;rw [hWg.out,hh] at this;exact this
 have hsz:=hV.out;clear m0 m1 m2 k0 k1 k2 R;obtain ⟨S,hSd⟩:∃S:Nat→Prop,S=fun k=>k<V0.heap.size∧k≠h:=⟨_,rfl⟩
 have hS:∀k,S k→k<V0.heap.size:=fun k h=>by rw [hSd] at h;exact h.1
 have hSo:¬S h:=fun h=>by rw [hSd] at h;exact h.2 rfl
 have hSi:∀k,k<V0.heap.size→k≠h→S k:=fun k h1 h2=>by rw [hSd];exact ⟨h1,h2⟩
 clear hSd;have hBw:Below w.heap.size w V0:=by rw [hg];exact B2.out
 have hSw:∀k,k<w.heap.size→S k:=fun k hk=>hSi k (by rw [hsz];omega) (by omega)
 go_loopw [25] (fun i wr=>∃k:Nat,k≤n∧i=.int .i64 k∧∃v,Hid (ziD S V0 h n n (YC n l k) v wr)) (fun i _=>n-(intOf i).toNat)
 case atStart=>exact ⟨0,by omega,rfl,_,za ⟨C0.out,zH.nil_ _ _,KB.refl S V0⟩⟩
 case round =>
  obtain ⟨k,hk,rfl,v,H⟩:=hrel
  by_cases hlt:k<n
  ·have hlt':(k:Int)<(n:Int):=by omega
   obtain ⟨m0,m1,m2⟩:=(H.out.kb.at_ (hSi g (by omega) (by omega)) A0''.out).three;go_wp2_with fail
   go_loopw [30] (fun i wr=>∃j:Nat,j≤n∧i=.int .i64 j∧∃v,Hid (ziD S V0 h n n (YC n l k++ZL n l k j) v wr)) (fun i _=>n-(intOf i).toNat)
   case atStart=>exact ⟨0,by omega,rfl,v,za (by simpa [ZL] using H.out)⟩
   case round =>
    obtain ⟨j,hj,rfl,v,H⟩:=hrel
    by_cases hjt:j<n
    ·have hjt':(j:Int)<(n:Int):=by omega
     have HNr:=za ((H.out.kb.nums HL.out hBw hSw));have CA:=za (fun (W:World) (h:zk W A m cp l)=>AT.out (max k j) (min k j) (by omega) (by omega) W h);obtain ⟨p,hp⟩:=zc (max k j);obtain ⟨q,hq⟩:=zc (min k j);have hpi:max (k:Int) (j:Int)=(p:Int):=by omega
     have hqi:min (k:Int) (j:Int)=(q:Int):=by omega
     have HP:=za hp;have HQ:=za hq;rw [hp,hq] at CA;clear hp hq;obtain ⟨rr,hrr⟩:=zc (atM n l p q);have HRR:=za hrr;simp only [hrr] at CA;obtain ⟨L,hL⟩:=zc (YC n l k++ZL n l k j);have HLE:=za hL
     have HLL:=za (show L.length≤1000 by
      rw [←hL,List.length_append,zdi,zb1];have:=Nat.mul_le_mul_right n hk;omega)
     rw [hL] at H;obtain ⟨rv,rl,rh,rb⟩:=rr;clear hL hrr;obtain ⟨m0,m1,m2⟩:=(H.out.kb.at_ (hSi g (by omega) (by omega)) A0''.out).three;have o2:=H.out.box.cell 2;have hgo:some h≠v.ownBlock:=jP H.out.own (by omega);have hgg:some g≠v.ownBlock:=jP H.out.own (by omega);go_wp2_with fail;refine je v.ownBlock.toList [0,1,2,3,4,5,6,7,8] [9,10,11,12,13] (.cons rfl (.cons rfl (.cons rfl (.cons rfl (.cons rfl (.cons rfl (.cons rfl (.cons rfl (.cons rfl .nil))))))))) (.cons rfl (.cons rfl (.cons rfl (.cons rfl (.cons rfl .nil))))) (by kernel_rfl) (by kernel_rfl) (fun c a d v w h=>by cases d<;>exact h) ?_
     have km0:=fun x=>But.cell m0 (zO hgg) x;have km1:=fun x=>But.cell m1 (zO hgg) x;have km2:=fun x=>But.cell m2 (zO hgg) x;have ko2:=fun x=>But.cell o2 (zO hgo) x
     repeat (go_big_quiet_step (fail))
     refine wpQuiet_nil ?_;clear km0 km1 km2 ko2;refine zp rfl (fun K hK=>?_);go_simp;refine (CA.out _ HNr.out.drew).mono ?_;rintro e w3 ⟨rfl,hb3⟩;replace hb3:=qi hb3;refine hK _ _ (zI ((zC.refl _ _).call hb3)) ?_;clear hK K;refine zp rfl (fun K hK=>?_);go_simp;refine hK _ _ (zI (((zC.refl _ _).call hb3).alloc _)) ?_;clear hK K;refine zp rfl (fun K hK=>?_);have hsW:=H.out.kb.size;refine jZ (.tmp 34) (.tmp 43) rfl V0.heap.size v L ⟨rv,rl,rh,rb⟩ _ rfl ((H.out.own.below hb3).alloc _) rfl (At.new' (by simp)) HLL.out (by have:=hb3.size;simp;omega) ?_
     intro g1 cc1 w4 hown4 hgrow4 hat4 hg1';refine hK _ _ (zI ((((zC.refl _ _).call hb3).alloc _).grown hgrow4 (fun k e=>.inl (qR k e)))) ?_;clear hK K;have hbx:=za ((((H.out.box.below hb3).alloc _).grown hgrow4 (jP H.out.own (by omega))));have e0:=hbx.out.cell 2;have z0:=hbx.out.frozen 2;have hrowS:∀k,v.ownBlock=some k→¬S k:=fun k e hk=>by have:=(World.ownsRow.lt H.out.own k e).1;have:=hS k hk;omega
     have hSW:∀k,S k→k<wr.heap.size:=fun k hk=>Nat.lt_of_lt_of_le (hS k hk) hsW;have hkb:=za (((((KB.refl S wr).call hSW hb3).call hSW (zg (Below.refl _ _) _)).grown hSW hgrow4 hrowS));have HO:=za hown4;have HB:=za (((((zC.refl wr v.ownBlock.toList).call hb3).alloc (.cells #[rv,rl,rh,rb] 71)).grown hgrow4 (fun k e=>.inl (qR k e))));clear hown4 hgrow4 hat4 hb3;refine zp rfl (fun K hK=>?_)
     go_simp;refine hK _ _ (zI HB.out) ?_;clear hK K;refine zZ rfl (fun K hK=>?_);go_simp;refine hK _ _ ?_;clear hK K;have HF:=za (show ziD S V0 h n n (YC n l k++ZL n l k (j+1)) (.slice (some ⟨g1,0,none⟩) (L.length+1) cc1) (w4.setCell ⟨h,2,none⟩ (.slice (some ⟨g1,0,none⟩) (L.length+1) cc1)) from ⟨hbx.out.set 2 _ rfl,by rw [ze1,←List.append_assoc,HLE.out,HP.out,HQ.out,HRR.out];exact HO.out.kept (jv w4 h 2 _) (.inr (by simp [Value.ownBlock];omega)),(H.out.kb.trans hkb.out).set hSo _ _⟩)
     clear e0 z0 hbx hkb HO HB;exact XaZ
    ·obtain rfl:j=n:=by omega
     rw [←zb0] at H;exact Xbv
  ·obtain rfl:k=n:=by omega
   obtain ⟨A1,n1,c1,rfl⟩:=zS H.out.own;obtain ⟨s0,s1,s2⟩:=H.out.box.three;have A1r:=za (H.out.kb.at_ (hSi (g+1) (by omega) (by omega)) A1''.out);obtain ⟨r0,r1,r2⟩:=A1r.out.three;have z0:=A1r.out.frozen 0;have z1:=A1r.out.frozen 1;have z2:=A1r.out.frozen 2;go_wp2_with fail;obtain ⟨d0,d1,d2⟩:=(A1r.out.set3 (.int .i64 (k:Int)) (.int .i64 (k:Int)) (.slice A1 n1 c1)).three
   refine bodyPost_ret (v:=.tuple #[.agg #[.int .i64 (k:Int),.int .i64 (k:Int),.slice A1 n1 c1],.bool true]) (by simp [results,Tryz.results123,go_sem,d0,d1,d2]) rfl ⟨A1,n1,c1,rfl,H.out.own.nums.set3 (w:=w) A1r.out (qQ A1r.out) _ _ _,?_,fun b o e=>Nat.le_trans (show w.heap.size≤V0.heap.size by omega) (zY H.out.own b o e)⟩;exact XbE
theorem XaM {P:Prop} (h:P:=by
 refine ⟨h.1,?_⟩;rcases h.2 with h0|⟨g,cap,cur,e,hg,hgb,r⟩
 ·exact .inl h0
 ·exact .inr ⟨g,cap,cur,e,hg,by rw [hs g (by rw [e];rfl)];exact hgb,r⟩) : P := h
section
attribute [local go_sem] Oper.semAt_some ve
structure zcH (S:Nat→Prop) (Wb:World) (B:Nat) (go:Nat) (r c:Int) (ys:List Num) (v:Value) (W:World):Prop where
 box:At W go 65 #[r,c,v]
 own:zH W B v ys
 kb:KB S Wb W
 row:∀k,v.ownBlock=some k→¬S k
theorem zcH.grown {S:Nat→Prop} {Wb W W':World} {B go:Nat} {r c:Int} {ys:List Num} {v:Value} {row:Option Nat} (h:zcH S Wb B go r c ys v W) (hS:∀k,S k→k<Wb.heap.size) (hgr:W.grownBy W' row) (hr:∀r,row=some r→Wb.heap.size≤r∧∃o:Obj,W.heap[r]?=some o∧o.isCells=false):zcH S Wb B go r c ys v W' :=
 ⟨qf h.box hgr (fun r e=>(hr r e).2),j7 h.own hgr (fun r e=>(hr r e).2),YU h.kb hS (Nat.le_refl _) hgr (fun r e=>(hr r e).1),h.row⟩
theorem zcH.below {S:Nat→Prop} {Wb W W':World} {B go:Nat} {r c:Int} {ys:List Num} {v:Value} (h:zcH S Wb B go r c ys v W) (hS:∀k,S k→k<Wb.heap.size) (hb:Below W.heap.size W W'):zcH S Wb B go r c ys v W' :=
 ⟨h.box.below hb,h.own.below hb,h.kb.call hS hb,h.row⟩
theorem vZ {w w':World} {B:Nat} {v:Value} {xs:List Num} (h:zH w B v xs) (hs:∀k,v.ownBlock=some k→w'.heap[k]?=w.heap[k]?):zH w' B v xs:=by
 exact XaM
theorem zk.kb_box {S:Nat→Prop} {W W':World} {A:Option Addr} {n c g:Nat} {t:TypeId} {cs:Array Value} {xs:List Num} (h:zk W A n c xs) (_:At W g t cs) (hc:∀i v,W.cell? ⟨g,i,none⟩=some v→∀x:Num,v≠.bool x.bad) (hk:KB S W W') (hS:∀k,k<W.heap.size→k≠g→S k):zk W' A n c xs :=
 ⟨h.1,h.2.1,fun hn=>by
  obtain ⟨b,o,e,hx⟩:=h.2.2 hn;refine ⟨b,o,e,fun k x hxk=>?_⟩;have h4:=hx k x hxk;have hne:b≠g:=fun e=>by subst e;exact hc _ _ h4.2.2.2 x rfl
  have hb:S b:=hS b (World.block_lt_of_cell? W ⟨b,_,none⟩ h4.1) hne;exact ⟨hk.cell hb h4.1,hk.cell hb h4.2.1,hk.cell hb h4.2.2.1,hk.cell hb h4.2.2.2⟩⟩
theorem zfB {W:World} {D b i:Nat} {o o':Obj} {v:Value} (h:W.cell? ⟨b,i,none⟩=some v) (hl:W.heap[D]?=some o) (ho:o.isCells=false):(W.putObj D o').cell? ⟨b,i,none⟩=some v:=by
 have hne:b≠D:=fun e=>by
  subst e;cases o<;>simp [World.cell?,hl] at h ho
  ·cases ho
 exact (World.cell?_of_block (World.putObj_heap_other hne)).trans h
theorem zdq {W:World} {D g:Nat} {o:Obj} (h:W.heap[D]?=some o) (hne:D≠g) (x y z:Value):(((W.setCell ⟨g,0,none⟩ x).setCell ⟨g,1,none⟩ y).setCell ⟨g,2,none⟩ z).heap[D]?=some o :=
 (Below.heap_setCell _ ⟨g,2,none⟩ z D hne).trans ((Below.heap_setCell _ ⟨g,1,none⟩ y D hne).trans ((Below.heap_setCell _ ⟨g,0,none⟩ x D hne).trans h))
theorem yf {W:World} {D n c:Nat} {A:Option Addr} {xs:List Num} {o:Obj} (h:zk W A n c xs) (o':Obj) (hl:W.heap[D]?=some o) (ho:o.isCells=false):zk (W.putObj D o') A n c xs:=h.keep fun b i v hc=>zfB hc hl ho
theorem KB.sub {S S':Nat→Prop} {A B:World} (h:KB S' A B) (hs:∀k,S k→S' k):KB S A B:=⟨h.os,h.tape,h.output,h.size,fun k hk=>h.block k (hs k hk)⟩
theorem zcH.set {S:Nat→Prop} {Wb W W' W4:World} {B go g1 n1 c1:Nat} {r c:Int} {ys zs:List Num} {v:Value} (h:zcH S Wb B go r c ys v W) (hS:∀k,S k→k<Wb.heap.size) (hgo:¬S go) (hb:go<B) (hbel:Below W.heap.size W W') (ho:zH W4 B (.slice (some ⟨g1,0,none⟩) n1 c1) zs) (hg:W'.grownBy W4 v.ownBlock) (hat:v.ownBlock=some g1∨g1=W'.heap.size) :
  zcH S Wb B go r c zs (.slice (some ⟨g1,0,none⟩) n1 c1) (W4.setCell ⟨go,2,none⟩ (.slice (some ⟨g1,0,none⟩) n1 c1)):=by
 have hrow:∀k,v.ownBlock=some k→¬S k:=h.row
 have hg1:¬S g1:=by
  rcases hat with e|e
  ·exact hrow _ e
  ·intro hk;have:=hS _ hk;have:=h.kb.size;have:=hbel.size;omega
 have hB1:B≤g1:=(World.ownsRow.lt ho g1 rfl).1;refine ⟨((h.box.below hbel).grown hg (jP h.own hb)).set 2 _ rfl,ho.kept (jv W4 go 2 _) (.inr (by simp [Value.ownBlock];omega)),?_,fun k e=>by cases e;exact hg1⟩;exact ((h.kb.trans ((KB.refl S W).call (fun k hk=>Nat.lt_of_lt_of_le (hS k hk) h.kb.size) hbel)).grown hS hg hrow).set hgo _ _
def Ql (c k:Nat) (l1 T:List Num) (i j:Nat):List Num:=(List.range j).map fun q=>Zf (qz c l1 i) (qz c T q)
def YB (c k:Nat) (l1 T:List Num) (i:Nat):List Num:=(List.range i).flatMap fun p=>Ql c k l1 T p k
def vK (r c k:Nat) (l1 l2:List Num):List Num:=YB c k l1 (j5 c k l2) r
theorem ze0 (c k:Nat) (l1 T:List Num) (i j:Nat):Ql c k l1 T i (j+1)=Ql c k l1 T i j++[Zf (qz c l1 i) (qz c T j)]:=by unfold Ql;rw [List.range_succ];simp
theorem zbZ (c k:Nat) (l1 T:List Num) (i j:Nat):(Ql c k l1 T i j).length=j:=by simp [Ql]
theorem zbY (c k:Nat) (l1 T:List Num) (i:Nat):YB c k l1 T (i+1)=YB c k l1 T i++Ql c k l1 T i k:=by unfold YB;rw [List.range_succ,List.flatMap_append];simp
theorem zdh (c k:Nat) (l1 T:List Num) (i:Nat):(YB c k l1 T i).length=i*k:=by
 induction i with
 | zero=>simp [YB]
 | succ i ih=>rw [zbY,List.length_append,ih,zbZ,Nat.add_mul,Nat.one_mul]
theorem zt.mul {r c k:Nat} {l1 l2:List Num} (h:zt r c l1) (h2:zt c k l2):zt r k (vK r c k l1 l2):=⟨h.r1,h.r2,h2.c1,h2.c2,zdh c k l1 _ r⟩
theorem zdc {c:Nat} {l:List Num} (c1:c≤16) (k:Nat):(qz c l k).length≤16:=by unfold qz;rw [List.length_take];omega
theorem QC (r c k : Nat) (A : Option Addr) (n cp : Nat) (l : List Num) (A' : Option Addr) (n' cp' : Nat) (l' : List Num) (hs : zt r c l) (hs' : zt c k l') (w : World) (hl : zk w A n cp l) (hl' : zk w A' n' cp' l') :
  Calls Tryz.prog 121 #[zE r c A n cp, zE c k A' n' cp'] w (qM r k (vK r c k l l') w) := by
 have hu := Tryz.underlying65;have hu1 := Tryz.underlying71;have R := za (show ∀ W, Calls Tryz.prog 119 #[zE r c A n cp] W fun e w' => e = .returned (.bool true) ∧ Below W.heap.size W w' from fun W => by have := qI r c A n cp W; rw [hs.right hl.1] at this; exact this);have R' := za (show ∀ W, Calls Tryz.prog 119 #[zE c k A' n' cp'] W fun e w' => e = .returned (.bool true) ∧ Below W.heap.size W w' from fun W => by have := qI c k A' n' cp' W; rw [hs'.right hl'.1] at this; exact this)
 have AL := za (fun W => vT r c A n cp W);have TN := za (fun (W : World) (h : zk W A' n' cp' l') => ze8 c k A' n' cp' l' hs' W h);have AT := za (fun (Q : Option Addr) (m p : Nat) (W : World) => vT k c Q m p W);have HL := za hl;have HL' := za hl';have hr16 := hs.r2;have hc16 := hs.c2;have hk16 := hs'.c2;have hln : n ≤ 256 := by rw [← hl.1, hs.len]; exact hs.prod
 clear hl hl';have hsT := hs'.turn;obtain ⟨T, hT⟩ := zc (j5 c k l');have HTE := za (show vK r c k l l' = YB c k l T r by unfold vK; rw [hT]);rw [hT] at TN hsT;clear hT;unfold zE at R R' AL TN AT;unfold zE;refine (callsIn_wide (n := 9)).1 ?_;refine callsIn_of_wp_marks Tryz.func121 rfl trivial ?_ rfl;simp only [Tryz.ntmps121, List.size_toArray, List.length_cons, List.length_nil, Nat.reduceAdd, Nat.reduceSub, Array.replicate_succ, Array.replicate_zero, List.push_toArray, List.append_toArray, List.nil_append, List.cons_append]
 gi_wp2_with fail;have A0 := za (((At.new w 65 #[.int .i64 (r : Int), .int .i64 (c : Int), .slice A n cp]).alloc (.cells #[.int .i64 (c : Int), .int .i64 (k : Int), .slice A' n' cp'] 65)).alloc (.cells #[.int .i64 0, .int .i64 0, .slice none 0 0] 65));have A1 := za ((At.new (w.alloc (.cells #[.int .i64 (r : Int), .int .i64 (c : Int), .slice A n cp] 65)) 65 #[.int .i64 (c : Int), .int .i64 (k : Int), .slice A' n' cp']).alloc (.cells #[.int .i64 0, .int .i64 0, .slice none 0 0] 65))
 have A2 := za (At.new ((w.alloc (.cells #[.int .i64 (r : Int), .int .i64 (c : Int), .slice A n cp] 65)).alloc (.cells #[.int .i64 (c : Int), .int .i64 (k : Int), .slice A' n' cp'] 65)) 65 #[.int .i64 0, .int .i64 0, .slice none 0 0]);have B0 := za (zg (zg (zg (Below.refl w.heap.size w) (.cells #[.int .i64 (r : Int), .int .i64 (c : Int), .slice A n cp] 65)) (.cells #[.int .i64 (c : Int), .int .i64 (k : Int), .slice A' n' cp'] 65)) (.cells #[.int .i64 0, .int .i64 0, .slice none 0 0] 65))
 obtain ⟨W0, hW0⟩ := zc ((((w.alloc (.cells #[.int .i64 (r : Int), .int .i64 (c : Int), .slice A n cp] 65)).alloc (.cells #[.int .i64 (c : Int), .int .i64 (k : Int), .slice A' n' cp'] 65)).alloc (.cells #[.int .i64 0, .int .i64 0, .slice none 0 0] 65)));simp only [World.size_alloc] at A1 A2;have hWg := za (show W0.heap.size = w.heap.size + 3 by rw [← hW0]; simp);rw [hW0] at A0 A1 A2 B0 ⊢;clear hW0
 obtain ⟨g, hg⟩ := zc (w.heap.size);rw [hg] at A0 A1 A2 B0 hWg
 try simp only [hg]
 refine (zw 8 (R.out W0)).mono ?_;rintro e w1 ⟨rfl, hb1⟩;have B1 := za (zq B0.out (by rw [hWg.out]; omega) hb1);have A0' := za (A0.out.below hb1);have A1' := za (A1.out.below hb1);have A2' := za (A2.out.below hb1);have hs1 := za hb1.size;clear hb1 A0 A1 A2 B0;obtain ⟨p0, p1, p2⟩ := A0'.out.three;obtain ⟨q0, q1, q2⟩ := A1'.out.three;gi_wp2_with fail;refine (zw 8 (R'.out w1)).mono ?_;rintro e w2 ⟨rfl, hb2⟩
 have hsz1 := hs1.out;rw [hWg.out] at hsz1;have B2 := za (zq B1.out (by omega) hb2);have C0 := za (A0'.out.below hb2);have C1 := za (A1'.out.below hb2);have C2 := za (A2'.out.below hb2);have hs2 := za (Nat.le_trans hsz1 hb2.size);clear hb2 A0' A1' A2' B1 p0 p1 p2 q0 q1 q2 hsz1 hs1;obtain ⟨p0, p1, p2⟩ := C0.out.three;obtain ⟨q0, q1, q2⟩ := C1.out.three;obtain ⟨s0, s1, s2⟩ := (C1.out.alloc (.cells #[.int .i64 (r : Int), .int .i64 (k : Int), .slice none 0 0] 65)).three
 gi_wp2_with fail;have D0 := za (At.new w2 65 #[.int .i64 (r : Int), .int .i64 (k : Int), .slice none 0 0]);have E0 := za (zg (Below.refl w2.heap.size w2) (.cells #[.int .i64 (r : Int), .int .i64 (k : Int), .slice none 0 0] 65));obtain ⟨U0, hU0⟩ := zc ((w2.alloc (.cells #[.int .i64 (r : Int), .int .i64 (k : Int), .slice none 0 0] 65)));have hU := za (show U0.heap.size = w2.heap.size + 1 by rw [← hU0]; simp)
 rw [hU0] at D0 E0 ⊢;clear hU0;obtain ⟨h, hh⟩ := zc (w2.heap.size);rw [hh] at D0 E0 hU
 try simp only [hh]
 have F0 := za (C0.out.below (by rw [hh]; exact E0.out));have F1 := za (C1.out.below (by rw [hh]; exact E0.out));have F2 := za (C2.out.below (by rw [hh]; exact E0.out));have hgh : g + 3 ≤ h := by have := hs2.out; rw [hh] at this; exact this
 have B3 := za (zq B2.out (by omega) (by rw [hh]; exact E0.out));clear C0 C1 C2 B2 E0 p0 p1 p2 q0 q1 q2 s0 s1 s2 hs2;have HLT := za (HL'.out.below (by rw [hg]; exact B3.out));refine (zw 8 (TN.out U0 HLT.out)).mono ?_;rintro e w3 ⟨Q, nq, cq, rfl, hq, hb3⟩;unfold zE;have G0 := za (F0.out.below hb3);have G2 := za (F2.out.below hb3);have G3 := za (D0.out.below hb3);have hs3 := za (show h + 1 ≤ w3.heap.size by have := hb3.size; rw [hU.out] at this; exact this)
 have B4 := za (zq B3.out (by rw [hU.out]; omega) hb3);have HQ := za hq;clear hb3 hq F0 F1 F2 D0 B3 HLT TN R R';obtain ⟨p0, p1, p2⟩ := (G0.out.alloc (.cells #[.int .i64 (k : Int), .int .i64 (c : Int), .slice Q nq cq] 65)).three;gi_wp2_with fail;refine (zw 8 (AL.out _)).mono ?_;rintro e w4 ⟨rfl, rfl⟩;have J0 := za ((At.new w3 65 #[.int .i64 (k : Int), .int .i64 (c : Int), .slice Q nq cq]).alloc (.cells #[.int .i64 (r : Int), .int .i64 (c : Int), .slice A n cp] 65))
 have J1 := za (At.new (w3.alloc (.cells #[.int .i64 (k : Int), .int .i64 (c : Int), .slice Q nq cq] 65)) 65 #[.int .i64 (r : Int), .int .i64 (c : Int), .slice A n cp]);have E0 := za (zg (zg (Below.refl w3.heap.size w3) (.cells #[.int .i64 (k : Int), .int .i64 (c : Int), .slice Q nq cq] 65)) (.cells #[.int .i64 (r : Int), .int .i64 (c : Int), .slice A n cp] 65));obtain ⟨V0, hV0⟩ := zc (((w3.alloc (.cells #[.int .i64 (k : Int), .int .i64 (c : Int), .slice Q nq cq] 65)).alloc (.cells #[.int .i64 (r : Int), .int .i64 (c : Int), .slice A n cp] 65)))
 simp only [World.size_alloc] at J1;have hV := za (show V0.heap.size = w3.heap.size + 2 by rw [← hV0]; simp);rw [hV0] at J0 J1 E0 ⊢;clear hV0;obtain ⟨t, ht⟩ := zc (w3.heap.size);rw [ht] at J0 J1 E0 hV
 try simp only [ht]
 simp only [World.size_alloc];simp only [ht];have H0 := za (G0.out.below (by rw [ht]; exact E0.out));have H2 := za (G2.out.below (by rw [ht]; exact E0.out));have H3 := za (G3.out.below (by rw [ht]; exact E0.out));have hht : h + 1 ≤ t := by have := hs3.out; rw [ht] at this; exact this
 have hsz := hV.out;have B5 := za (zq B4.out (by omega) (by rw [ht]; exact E0.out));have hBw : Below w.heap.size w V0 := by rw [hg]; exact B5.out
 have HQV := za (HQ.out.below (by rw [ht]; exact E0.out));clear G0 G2 G3 B4 E0 p0 p1 p2 hs3 HQ hU hWg;obtain ⟨S, hSd⟩ : ∃ S : Nat → Prop, S = fun k => k < V0.heap.size ∧ k ≠ h := ⟨_, rfl⟩
 have hS : ∀ k, S k → k < V0.heap.size := fun k h => by rw [hSd] at h; exact h.1
 have hSo : ¬ S h := fun h => by rw [hSd] at h; exact h.2 rfl
 have hSi : ∀ k, k < V0.heap.size → k ≠ h → S k := fun k h1 h2 => by rw [hSd]; exact ⟨h1, h2⟩
 clear hSd;have hSw : ∀ k, k < w.heap.size → S k := fun k hk => hSi k (by omega) (by omega);gi_wp2_with fail
 refine jS rfl (by decide) (gf := 124) (lb := #[.pointer (some ⟨t + 1, 0, none⟩)]) rfl trivial yw
  (y9 6 S (t + 1) r c A n cp l hs V0 (hSi _ (by omega) (by omega)) J1.out (fun W' q => q.nums HL.out hBw hSw)) (fun s W0 args s' W1 h => (V3.size _ _ _ _ _ h).trans rfl)
  (fun i W => ∃ v, zcH S V0 V0.heap.size h r k (YB c k l T i) v W) (fun _ _ ⟨_, q⟩ => q.kb) (fun _ _ _ _ ⟨v, q⟩ hgr hr => ⟨v, q.grown hS hgr hr⟩) (fun _ _ _ ⟨v, q⟩ hb => ⟨v, q.below hS hb⟩)
  ⟨.slice none 0 0, H3.out, zH.nil_ _ _, KB.refl S V0, fun k e => by cases e⟩ ?round ?done
 case round =>
  rintro lp i i' args V1 V2 hlp ⟨v, hv⟩ ⟨rl, hrl⟩ hb ⟨hir, rfl, row, rfl, hrow⟩;have K1 := za (hv.below hS hb);have hvu : ∀ q, v.ownBlock = some q → q < V1.heap.size := fun q e => (World.ownsRow.lt hv.own q e).2;have hV01 : V0.heap.size ≤ V1.heap.size := hv.kb.size;have HR := za hrow;obtain ⟨ra, rn, rc, rfl⟩ := zS hrow;have hlp2 : V2.heap[lp]? = some (.loop rl) := (hb.block lp (Array.getElem?_eq_some_iff.1 hrl).1).trans hrl
  have hVW1 : V1.heap.size ≤ V2.heap.size := hb.size;clear hv hrow hrl hb;gi_wp2_with fail;refine ⟨zB (zg (Below.refl _ _) _), fun W2 hgr ho ⟨rl2, hrl2⟩ => ?_⟩;have K2 := za ((K1.out.below hS (zg (Below.refl _ _) _)).grown hS hgr (fun r e => by cases e; exact ⟨hlp, ho⟩));have HR2 := za (j7 (HR.out.alloc (.cells #[.slice ra rn rc] 63)) hgr (fun r e => by cases e; exact ho)).nums;have X2 := za (qf (At.new V2 63 #[.slice ra rn rc]) hgr (fun r e => by cases e; exact ho))
  obtain ⟨u, hu9⟩ := zc (V2.heap.size);have hVu : V0.heap.size ≤ u := by rw [← hu9]; exact K1.out.kb.size
  have hVW2 : V1.heap.size ≤ W2.heap.size := Nat.le_trans hVW1 (Nat.le_trans (by simp) hgr.size);have hV1u : V1.heap.size ≤ u := by rw [← hu9]; exact hVW1
  have huW : u < W2.heap.size := by have := X2.out.lt; rw [hu9] at this; exact this
  rw [hu9] at X2;simp only [hu9];have HRo := za (j7 (HR.out.alloc (.cells #[.slice ra rn rc] 63)) hgr (fun r e => by cases e; exact ho));clear K1 HR hgr ho hu9 hlp2;obtain ⟨p0, p1, p2⟩ := (K2.out.kb.at_ (hSi t (by omega) (by omega)) J0.out).three;gi_wp2_with fail;refine CallsIn.inRound lp ((zw 6 (AT.out Q nq cq W2)).mono ?_);rintro e w5 ⟨rfl, rfl⟩;have M0 := za (At.new W2 65 #[.int .i64 (k : Int), .int .i64 (c : Int), .slice Q nq cq])
  have E1 := za (zg (Below.refl W2.heap.size W2) (.cells #[.int .i64 (k : Int), .int .i64 (c : Int), .slice Q nq cq] 65));obtain ⟨X0, hX0⟩ := zc ((W2.alloc (.cells #[.int .i64 (k : Int), .int .i64 (c : Int), .slice Q nq cq] 65)));have hX := za (show X0.heap.size = W2.heap.size + 1 by rw [← hX0]; simp);rw [hX0] at M0 E1 ⊢;clear hX0;obtain ⟨y, hy⟩ := zc (W2.heap.size);rw [hy] at M0 E1 hX
  try simp only [hy]
  have hbX := za (show Below W2.heap.size W2 X0 by rw [hy]; exact E1.out);have hrX : X0.heap[lp]? = some (.loop rl2) := (hbX.out.block lp (Array.getElem?_eq_some_iff.1 hrl2).1).trans hrl2;have KX := za (K2.out.below hS hbX.out);have RX := za (HRo.out.below hbX.out);have UX := za (X2.out.below hbX.out);have hxz := hX.out;clear K2 HR2 HRo X2 hrl2 p0 p1 p2 E1;have hkX := za (zB (B := V0.heap.size) hbX.out)
  obtain ⟨Z, hZd⟩ : ∃ Z : Nat → Prop, Z = fun q => q < X0.heap.size ∧ q ≠ h ∧ v.ownBlock ≠ some q := ⟨_, rfl⟩
  have hZ : ∀ k, Z k → k < X0.heap.size := fun k h => by rw [hZd] at h; exact h.1
  have hZo : ¬ Z h := fun h => by rw [hZd] at h; exact h.2.1 rfl
  have hZv : ∀ q, v.ownBlock = some q → ¬ Z q := fun q e h => by rw [hZd] at h; exact h.2.2 e
  have hZi : ∀ q, q < X0.heap.size → q ≠ h → v.ownBlock ≠ some q → Z q := fun q h1 h2 h3 => by rw [hZd]; exact ⟨h1, h2, h3⟩
  clear hZd;have hZS : ∀ q, S q → Z q := fun q hq => hZi q (Nat.lt_of_lt_of_le (hS q hq) KX.out.kb.size) (fun e => hSo (e ▸ hq)) (fun e => KX.out.row q e hq);have hZf : ∀ q, V1.heap.size ≤ q → q < X0.heap.size → Z q := fun q h1 h2 => hZi q h2 (by omega) (fun e => by have := hvu q e; omega);have hVW : V1.heap.size ≤ W2.heap.size := hVW2;gi_wp2_with fail
  refine zdI (l0 := lp) (r0 := rl2) rfl hrX (by decide) (gf := 124) (lb := #[.pointer (some ⟨y, 0, none⟩)]) rfl trivial yw
   ((y9 4 Z y k c Q nq cq T hsT X0 (hZf _ (by omega) (by omega)) M0.out (fun W' q => HQV.out.kb_box H3.out (qQ H3.out) (KX.out.kb.trans (q.sub hZS)) hSi)).inRound lp) (fun s W0 args s' W1 h => (V3.size _ _ _ _ _ h).trans rfl)
   (fun j W => (∃ v, zcH Z X0 V0.heap.size h r k (YB c k l T i ++ Ql c k l T i j) v W) ∧ KeepsFrom V0.heap.size X0 W) (fun _ _ ⟨⟨_, q⟩, _⟩ => q.kb) (fun _ _ _ _ ⟨⟨v, q⟩, kf⟩ hgr hr => ⟨⟨v, q.grown hZ hgr hr⟩, ownFrom_keepsFrom (β := Unit) (Nat.le_refl X0.heap.size) () _ _ _ kf hgr hr⟩) (fun _ _ _ ⟨⟨v, q⟩, kf⟩ hb => ⟨⟨v, q.below hZ hb⟩, kf.trans (zB hb)⟩)
   ⟨⟨v, KX.out.box, by simpa [Ql] using KX.out.own, KB.refl _ _, hZv⟩, KeepsFrom.refl _ _⟩ ?iround ?idone
  case iround =>
   rintro lq j j' args Y1 Y2 hlq ⟨⟨v2, hv2⟩, kf⟩ ⟨rl3, hrl3⟩ hb ⟨hjk, rfl, row2, rfl, hrow2⟩;have H' := za (hv2.below hZ hb);have kf' := za (kf.trans (zB (B := V0.heap.size) hb));have HR2 := za hrow2;obtain ⟨qa, qn, qc, rfl⟩ := zS hrow2;clear hv2 hrow2 hrl3 kf hb;gi_wp2_with fail;refine ⟨KeepsFrom.refl _ _, fun W6 hgr ho _ => ?_⟩;have H := za (H'.out.grown hZ hgr (fun r e => by cases e; exact ⟨hlq, ho⟩))
   have kf6 := za (ownFrom_keepsFrom (β := Unit) (Nat.le_refl X0.heap.size) () _ _ _ kf'.out hgr (fun r e => by cases e; exact ⟨hlq, ho⟩));have N2 := za (j7 HR2.out hgr (fun r e => by cases e; exact ho)).nums;have N1 := za (vZ RX.out (fun q e => H.out.kb.block q (hZf q (World.ownsRow.lt RX.out q e).1 (World.ownsRow.lt RX.out q e).2))).nums;have hZu : Z u := hZf u (by omega) (by omega);have u0 := (H.out.kb.at_ hZu UX.out).cell 0
   have o2 := H.out.box.cell 2;have hgo : some h ≠ v2.ownBlock := jP H.out.own (by omega);have hgu : some u ≠ v2.ownBlock := fun e => H.out.row u e.symm hZu;have hrn : rn ≤ 1000 := by have := zL RX.out; have := zdc (l := l) hc16 i; omega
   have hqn : qn ≤ 1000 := by have := zL HR2.out; have := zdc (l := T) hc16 j; omega
   have CD := za (fun (W : World) (h1 : zk W ra rn rc (qz c l i)) (h2 : zk W qa qn qc (qz c T j)) => Zm ra qa rn rc qn qc _ _ hrn hqn W h1 h2);obtain ⟨rr, hrr⟩ := zc (Zf (qz c l i) (qz c T j));have HRR := za hrr;simp only [hrr] at CD;obtain ⟨L, hL⟩ := zc (YB c k l T i ++ Ql c k l T i j);have HLE := za hL
   have HLL := za (show L.length ≤ 1000 by
    rw [← hL, List.length_append, zdh, zbZ];have := Nat.mul_le_mul (Nat.le_of_lt (Nat.lt_of_lt_of_le hir hr16)) hk16;omega)
   rw [hL] at H;obtain ⟨rv, rl, rh, rb⟩ := rr;have HBW : V0.heap.size ≤ W6.heap.size := by have := H.out.kb.size; omega
   clear hL hrr hgr ho H' kf' HR2;obtain ⟨v, hvv⟩ : ∃ v, v = v2 := ⟨_, rfl⟩
   subst hvv;gi_wp2_with fail;refine jV (by kernel_rfl) (by kernel_rfl) (by rintro ⟨a, w, h⟩; exact h) (jH v.ownBlock.toList [0, 1, 2, 3] [4, 5, 6, 7, 8] (.cons rfl (.cons rfl (.cons rfl (.cons rfl .nil)))) (.cons rfl (.cons rfl (.cons rfl (.cons rfl (.cons rfl .nil))))) (by kernel_rfl) (fun c a d v w h => h) ?_);have ko2 := fun x => But.cell o2 (zO hgo) x;have ku0 := fun x => But.cell u0 (zO hgu) x
   repeat (go_big_quiet_step (fail))
   refine wpQuiet_nil ?_;clear ko2 ku0;refine zp rfl (fun K hK => ?_);go_simp;refine (CD.out _ N1.out.drew N2.out.drew).mono ?_;rintro e w3 ⟨rfl, hb3⟩;replace hb3 := qi hb3;refine hK _ _ (zI ((zC.refl _ _).call hb3)) ?_;clear hK K;refine zp rfl (fun K hK => ?_);go_simp;refine hK _ _ (zI (((zC.refl _ _).call hb3).alloc _)) ?_;clear hK K;refine zp rfl (fun K hK => ?_);refine jZ (.tmp 44) (.tmp 48) rfl (V0.heap.size) v L ⟨rv, rl, rh, rb⟩ _ rfl ((H.out.own.below hb3).alloc _) rfl (At.new' (by simp)) HLL.out (by have := hb3.size; have := HBW; simp; omega) ?_
   intro g1 cc1 w4 hown4 hgrow4 hat4 hg1';refine hK _ _ (zI ((((zC.refl _ _).call hb3).alloc _).grown hgrow4 (fun k e => .inl (qR k e)))) ?_;clear hK K;have hbx := za ((((H.out.box.below hb3).alloc (.cells #[rv, rl, rh, rb] 71)).grown hgrow4 (jP H.out.own (by omega))));have e0 := hbx.out.cell 2;have z0 := hbx.out.frozen 2;have HF := za (H.out.set hZ hZo (by omega) (hb3.alloc hb3.size (.cells #[rv, rl, rh, rb] 71)) hown4 hgrow4 hat4)
   have HKF := fun N : Nat => (((zB (B := N) hb3).trans ((zB (zg (Below.refl _ _) _)).trans (jF ((H.out.own.below hb3).alloc _) hgrow4)))).trans (zV N w4 ⟨h, 2, none⟩ (.slice (some ⟨g1, 0, none⟩) (L.length + 1) cc1));replace HKF := za HKF;have HB := za (((((zC.refl W6 v.ownBlock.toList).call hb3).alloc (.cells #[rv, rl, rh, rb] 71)).grown hgrow4 (fun k e => .inl (qR k e))));clear hown4 hgrow4 hat4 hb3
   refine zp rfl (fun K hK => ?_);go_simp;refine hK _ _ (zI HB.out) ?_;clear hK K;refine zZ rfl (fun K hK => ?_);go_simp;refine hK _ _ ?_;clear hK K e0 z0 hbx HB;refine ⟨HKF.out _, ⟨.slice (some ⟨g1, 0, none⟩) (L.length + 1) cc1, ?_⟩, kf6.out.trans (HKF.out _)⟩;rw [ze0, ← List.append_assoc, HLE.out, HRR.out];exact HF.out
  case idone =>
   rintro _ W rfl ⟨⟨v', q⟩, kf⟩;exact ⟨hkX.out.trans kf, v', q.box, by rw [zbY]; exact q.own, KX.out.kb.trans (q.kb.sub hZS), fun z e hs => q.row z e (hZS z hs)⟩
 case done =>
  rintro D r' W hD hrr ⟨v, hv⟩ hK;rw [show r' = r from hrr] at hv;have HK := za hK;have H := za hv;have hD' := za hD;obtain ⟨Q1, n1, c1, rfl⟩ := zS hv.own;clear hv hK hD;obtain ⟨s0, s1, s2⟩ := H.out.box.three;have A2r := za (H.out.kb.at_ (hSi (g + 1 + 1) (by omega) (by omega)) H2.out);obtain ⟨r0, r1, r2⟩ := A2r.out.three;have z0 := A2r.out.frozen 0;have z1 := A2r.out.frozen 1;have z2 := A2r.out.frozen 2
  gi_wp2_with fail;have hne : D ≠ g + 1 + 1 := by have := hD'.out; omega
  have HK3 := za (zdq HK.out hne (.int .i64 (r : Int)) (.int .i64 (k : Int)) (.slice Q1 n1 c1));have A3r := za (qf (A2r.out.set3 (.int .i64 (r : Int)) (.int .i64 (k : Int)) (.slice Q1 n1 c1)) (grownBy_putObj' _ D (.deferred none)) (fun r e => by cases e; exact ⟨_, HK3.out, rfl⟩));have NR := za (yf (H.out.own.nums.set3 (w := w) A2r.out (qQ A2r.out) (.int .i64 (r : Int)) (.int .i64 (k : Int)) (.slice Q1 n1 c1)) (.deferred none) HK3.out rfl)
  obtain ⟨d0, d1, d2⟩ := A3r.out.three;refine ⟨by simp, .inl ⟨_, _, rfl, run_takeDeferred HK3.out, ?_⟩⟩;refine ⟨.tuple #[.agg #[.int .i64 (r : Int), .int .i64 (k : Int), .slice Q1 n1 c1], .bool true], (by simp [results, Tryz.results121, go_sem, d0, d1, d2]), Q1, n1, c1, rfl, by rw [HTE.out]; exact NR.out, ?_, fun b o e => Nat.le_trans (show w.heap.size ≤ V0.heap.size by omega) (zY H.out.own b o e)⟩
  rw [hg];exact qu (jd (B5.out.trans (H.out.kb.below (fun k hk => hSi k (by omega) (by omega)))) (by omega) _ _ _) (by have := H.out.kb.size; simp [World.setCell]; omega) (by have := hD'.out; omega) _
theorem zkh (r c k:Nat) (A:Option Addr) (n cp:Nat) (l:List Num) (A':Option Addr) (n' cp':Nat) (l':List Num) (hs:zt r c l) (hs':zt c k l') (w:World) (hl:zk w A n cp l) (hl':zk w A' n' cp' l') :
  Calls Tryz.prog 121 #[zE r c A n cp,zE c k A' n' cp'] w (zj0 r k (vK r c k l l') w):=(QC r c k A n cp l A' n' cp' l' hs hs' w hl hl').mono fun _ _ h=>h.ret
end
end Go.Proofs.YtcoiklclbljjeaaGreatDoor.L
