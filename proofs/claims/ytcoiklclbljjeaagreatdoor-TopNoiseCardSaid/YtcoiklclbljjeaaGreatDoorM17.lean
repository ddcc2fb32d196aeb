/- Lemmas of the card's proof. -/
import Derived.Test.YtcoiklclbljjeaaGreatDoorM16
set_option linter.unusedVariables false
set_option linter.unusedSimpArgs false
set_option maxRecDepth 100000
set_option maxHeartbeats 16000000
namespace Go.Proofs.YtcoiklclbljjeaaGreatDoor.L
open Go.RowKit
theorem zbH (n:Nat) (A:Option Addr) (m cp:Nat) (l:List Num) (hs:zt n n l) (hm:l.length=m) (w:World):Calls Tryz.prog 120 #[zE n n A m cp] w fun e w'=>e=.returned (.bool true)∧Below w.heap.size w w':=by
 have hu:=Tryz.underlying65;have R:=za (show ∀W,Calls Tryz.prog 119 #[zE n n A m cp] W fun e w'=>e=.returned (.bool true)∧Below W.heap.size W w' from fun W=>by have:=qI n n A m cp W;rw [hs.right hm] at this;exact this);unfold zE at R;unfold zE;go_enter Tryz.func120,Tryz.ntmps120;go_wp2_with fail;have A0:=za (At.new w 65 #[.int .i64 (n:Int),.int .i64 (n:Int),.slice A m cp])
 have B0:=za (zg (Below.refl w.heap.size w) (.cells #[.int .i64 (n:Int),.int .i64 (n:Int),.slice A m cp] 65));obtain ⟨W0,hW0⟩:=zc ((w.alloc (.cells #[.int .i64 (n:Int),.int .i64 (n:Int),.slice A m cp] 65)));have hWg:=za (show W0.heap.size=w.heap.size+1 by rw [←hW0];simp);rw [hW0] at A0 B0 ⊢;clear hW0;obtain ⟨g,hg⟩:=zc (w.heap.size);rw [hg] at A0 B0 hWg
 try simp only [hg]
 refine (R.out W0).mono ?_;rintro e w1 ⟨rfl,hb1⟩;obtain ⟨m0,m1,m2⟩:=(A0.out.below hb1).three;have B1:=za (zq B0.out (by rw [hWg.out];omega) hb1);clear hb1;go_wp2_with fail;go_ret;refine ⟨rfl,?_⟩;rw [hg];exact B1.out
def ZP (n:Nat) (f:Nat→Nat→Num) (k:Nat):List Num:=(List.range k).flatMap fun i=>(List.range n).map (f i)
def zg8 (n:Nat) (f:Nat→Nat→Num):List Num:=ZP n f n
theorem zaW (n:Nat) (f:Nat→Nat→Num) (k:Nat):ZP n f (k+1)=ZP n f k++(List.range n).map (f k):=by unfold ZP;rw [List.range_succ,List.flatMap_append];simp
theorem zcd (n:Nat) (f:Nat→Nat→Num) (k:Nat):(ZP n f k).length=k*n:=by
 induction k with
 | zero=>simp [ZP]
 | succ k ih=>rw [zaW,List.length_append,ih,List.length_map,List.length_range,Nat.add_mul,Nat.one_mul]
theorem zt.grid {n:Nat} (f:Nat→Nat→Num) (h1:1≤n) (h2:n≤16):zt n n (zg8 n f):=⟨h1,h2,h1,h2,zcd n f n⟩
theorem zb3 {α:Type} (f:Nat→α) (j:Nat):(List.range (j+1)).map f=(List.range j).map f++[f j]:=by rw [List.range_succ];simp
theorem zhx (F:Nat) (lb:Array Value) (f:Nat→Nat→Num) (heF:∀(args:Array Value) (W:World),(callFunc F args).run Tryz.prog W=.ok (.enter F args) W) (n:Nat) (h1:1≤n) (h2:n≤16) (w:World)
  (hF:∀W,Below w.heap.size w W→∀i k:Nat,i<n→k<n→Calls Tryz.prog F (#[.int .i64 (i:Int),.int .i64 (k:Int)]++lb) W fun e w'=>e=.returned (f i k).val∧Below W.heap.size W w') :
  Calls Tryz.prog 165 #[.int .i64 (n:Int),.func (.func F) #[] lb] w (qM n n (zg8 n f) w):=by
 have hu:=Tryz.underlying65;have hu1:=Tryz.underlying71;have HF:=za hF;have NW:=za (fun (Q:Option Addr) (m p:Nat) (W:World) (h:zk W Q m p (zg8 n f))=>vE n n Q m p _ (zt.grid f h1 h2) W h);clear hF;go_enter Tryz.func165,Tryz.ntmps165;go_wp2_with fail;have A0:=za (At.new w 65 #[.int .i64 0,.int .i64 0,.slice none 0 0]);have B0:=za (zg (Below.refl w.heap.size w) (.cells #[.int .i64 0,.int .i64 0,.slice none 0 0] 65))
 obtain ⟨W0,hW0⟩:=zc ((w.alloc (.cells #[.int .i64 0,.int .i64 0,.slice none 0 0] 65)));have hWg:=za (show W0.heap.size=w.heap.size+1 by rw [←hW0];simp);rw [hW0] at A0 B0 ⊢;clear hW0;obtain ⟨g,hg⟩:=zc (w.heap.size);rw [hg] at A0 B0 hWg
 try simp only [hg]
 have hsz:=hWg.out
 go_loopw [6,10] (fun v i wr=>∃k:Nat,k≤n∧i=.int .i64 k∧Hid (zH wr W0.heap.size v (ZP n f k))∧Hid (Below W0.heap.size W0 wr)) (fun v i _=>n-(intOf i).toNat)
 case atStart=>exact ⟨0,by omega,rfl,za (zH.nil_ _ _),za (Below.refl _ _)⟩
 case round =>
  obtain ⟨k,hk,rfl,HO,HB⟩:=hrel
  by_cases hlt:k<n
  ·have hlt':(k:Int)<(n:Int):=by omega
   go_wp2_with fail
   go_loopw [6,14] (fun v i wr=>∃j:Nat,j≤n∧i=.int .i64 j∧Hid (zH wr W0.heap.size v (ZP n f k++(List.range j).map (f k)))∧Hid (Below W0.heap.size W0 wr)) (fun v i _=>n-(intOf i).toNat)
   case atStart=>exact ⟨0,by omega,rfl,za (by simpa using HO.out),HB⟩
   case round =>
    clear HO HB;obtain ⟨j,hj,rfl,HO,HB⟩:=hrel
    by_cases hjt:j<n
    ·have hjt':(j:Int)<(n:Int):=by omega
     have C:=za (fun (W:World) (hb:Below w.heap.size w W)=>HF.out W hb k j hlt hjt);have HT:=za (show ZP n f k++(List.range j).map (f k)++[f k j]=ZP n f k++(List.range (j+1)).map (f k) by rw [List.append_assoc,←zb3]);obtain ⟨rr,hrr⟩:=zc (f k j);simp only [hrr] at C;rw [hrr] at HT;obtain ⟨L,hL⟩:=zc (ZP n f k++(List.range j).map (f k))
     have HLL:=za (show L.length≤1000 by
      rw [←hL,List.length_append,zcd,List.length_map,List.length_range];have:=Nat.mul_le_mul (Nat.le_trans hk h2) h2;omega)
     rw [hL] at HO HT;obtain ⟨rv,rl,rh,rb⟩:=rr;unfold Num.val at C;dsimp only at C;clear hL hrr;obtain ⟨v,hvv⟩:∃v,v=u6:=⟨_,rfl⟩
     subst hvv;go_wp2_with fail;refine (C.out _ (by rw [hg];exact B0.out.trans (HB.out.mono (by omega)))).mono ?_;rintro e w2 ⟨rfl,hb2⟩;have O2:=za (HO.out.below hb2);have K2:=za (zi HB.out hb2);clear hb2;go_wp2_with (at_builtin;refine yJ rfl (.tmp 17) (.tmp 22) rfl W0.heap.size v L ⟨rv,rl,rh,rb⟩ _ rfl (O2.out.alloc _) rfl (At.new' (by simp)) HLL.out (zg K2.out _).size ?_;intro g1 cc1 w3 hown hgrow hat hg1;have O3:=za hown;have K3:=za (vn (zg K2.out _) (O2.out.alloc _) hgrow);clear hown hgrow hat hg1)
     rw [HT.out] at O3;go_roundw
     case rel=>exact ⟨j+1,by omega,by go_num,O3,K3⟩
     case measure=>simp [intOf];omega
    ·obtain rfl:j=n:=by omega
     rw [←zaW] at HO;go_wp2_with fail;go_roundw
     case rel=>exact ⟨k+1,by omega,by go_num,HO,HB⟩
     case measure=>simp [intOf];omega
  ·obtain rfl:k=n:=by omega
   obtain ⟨A1,n1,c1,rfl⟩:=zS HO.out;go_wp2_with fail;refine (NW.out _ _ _ _ HO.out.nums).mono ?_;rintro e w2 ⟨Q,a,b,rfl,hq,hb2,hfr⟩;unfold zE;have B2:=za (zq (B0.out.trans (HB.out.mono (by omega))) (by have:=HB.out.size;omega) hb2);have D0:=za ((A0.out.below HB.out).below hb2);have HQ:=za hq;clear hq hb2;obtain ⟨r0,r1,r2⟩:=D0.out.three;have z0:=D0.out.frozen 0;have z1:=D0.out.frozen 1
   have z2:=D0.out.frozen 2;go_wp2_with fail;have NR:=za (HQ.out.set3 (w:=w) D0.out (qQ D0.out) (.int .i64 (k:Int)) (.int .i64 (k:Int)) (.slice Q a b));obtain ⟨d0,d1,d2⟩:=(D0.out.set3 (.int .i64 (k:Int)) (.int .i64 (k:Int)) (.slice Q a b)).three;refine bodyPost_ret (v:=.tuple #[.agg #[.int .i64 (k:Int),.int .i64 (k:Int),.slice Q a b],.bool true]) (by simp [results,Tryz.results165,go_sem,d0,d1,d2]) rfl ⟨Q,a,b,rfl,NR.out,?_,fun b o e=>Nat.le_trans (show w.heap.size≤wr.heap.size by have:=HB.out.size;omega) (hfr b o e)⟩
   rw [hg];exact jd B2.out (by omega) _ _ _
end Go.Proofs.YtcoiklclbljjeaaGreatDoor.L
