/- Lemmas of the card's proof. -/
import Derived.Test.YtcoiklclbljjeaaGreatDoorM04
set_option linter.unusedVariables false
set_option linter.unusedSimpArgs false
set_option maxRecDepth 100000
set_option maxHeartbeats 16000000
namespace Go.Proofs.YtcoiklclbljjeaaGreatDoor.L
open Go.RowKit
section
attribute [local go_sem] Oper.semAt_some
theorem zjn (a b c d:Int) (W:World):Sem.run Tryz.prog (Instr.index 156 (.agg #[a,b,c,d]) (.int .i64 0)) W=.ok a W:=by kernel_rfl
theorem zjm (a b c d:Int) (W:World):Sem.run Tryz.prog (Instr.index 156 (.agg #[a,b,c,d]) (.int .i64 1)) W=.ok b W:=by kernel_rfl
theorem zjl (a b c d:Int) (W:World):Sem.run Tryz.prog (Instr.index 156 (.agg #[a,b,c,d]) (.int .i64 2)) W=.ok c W:=by kernel_rfl
theorem zjk (a b c d:Int) (W:World):Sem.run Tryz.prog (Instr.index 156 (.agg #[a,b,c,d]) (.int .i64 3)) W=.ok d W:=by kernel_rfl
theorem ZZ (a b c d:Int) (a0:0<a) (b0:0<b) (c0:0<c) (d0:0<d) (a1:a≤4611686018427387903) (b1:b≤4611686018427387903) (c1:c≤4611686018427387903) (d1:d≤4611686018427387903)
  (hlt:lt2 (hi (sz a) (sz b)) (lo (sz a) (sz b)) (hi (sz c) (sz d)) (lo (sz c) (sz d))=true) (w:World):Calls Tryz.prog 65 #[a,b,c,d] w fun e w'=>e=.returned (.int .i64 (-1))∧Below w.heap.size w w':=by
 have hu:=Tryz.underlying156;have hu1:=Tryz.underlying158;have RA:=za (show ∀W,Calls Tryz.prog 64 #[a] W fun e w'=>e=.returned (.bool true)∧W=w' from fun W=>by have h:=zx a W;rw [show inW a=true from zr.mpr ⟨by omega,a1⟩] at h;exact h);have RB:=za (show ∀W,Calls Tryz.prog 64 #[b] W fun e w'=>e=.returned (.bool true)∧W=w' from fun W=>by have h:=zx b W;rw [show inW b=true from zr.mpr ⟨by omega,b1⟩] at h;exact h)
 have RC:=za (show ∀W,Calls Tryz.prog 64 #[c] W fun e w'=>e=.returned (.bool true)∧W=w' from fun W=>by have h:=zx c W;rw [show inW c=true from zr.mpr ⟨by omega,c1⟩] at h;exact h);have RD:=za (show ∀W,Calls Tryz.prog 64 #[d] W fun e w'=>e=.returned (.bool true)∧W=w' from fun W=>by have h:=zx d W;rw [show inW d=true from zr.mpr ⟨by omega,d1⟩] at h;exact h);go_enter Tryz.func65,Tryz.ntmps65
 go_wp2_with fail
 go_loopw [10,21] (fun _ i wr=>∃j:Nat,j≤4∧i=.int .i64 j∧wr=w) (fun _ i _=>4-(intOf i).toNat)
 case atStart=>exact ⟨0,by omega,rfl,rfl⟩
 case round =>
  obtain ⟨j,hj,rfl,rfl⟩:=hrel
  match j,hj with
  | 0,_ =>
   have hix:=zjn a b c d wr;go_wp2_with fail;refine (RA.out _).mono ?_;rintro e w1 ⟨rfl,rfl⟩;go_wp2_with fail;go_roundw
   case rel=>exact ⟨1,by omega,by go_num,by trivial⟩
   case measure=>simp [intOf]
  | 1,_ =>
   have hix:=zjm a b c d wr;go_wp2_with fail;refine (RB.out _).mono ?_;rintro e w1 ⟨rfl,rfl⟩;go_wp2_with fail;go_roundw
   case rel=>exact ⟨2,by omega,by go_num,by trivial⟩
   case measure=>simp [intOf]
  | 2,_ =>
   have hix:=zjl a b c d wr;go_wp2_with fail;refine (RC.out _).mono ?_;rintro e w1 ⟨rfl,rfl⟩;go_wp2_with fail;go_roundw
   case rel=>exact ⟨3,by omega,by go_num,by trivial⟩
   case measure=>simp [intOf]
  | 3,_ =>
   have hix:=zjk a b c d wr;go_wp2_with fail;refine (RD.out _).mono ?_;rintro e w1 ⟨rfl,rfl⟩;go_wp2_with fail;go_roundw
   case rel=>exact ⟨4,by omega,by go_num,by trivial⟩
   case measure=>simp [intOf]
  | 4,_ =>
   go_wp2_with fail;have es1:zeK a b=1:=by unfold zeK;rw [if_neg (by omega),decide_eq_false (by omega),decide_eq_false (by omega)];rfl
   have es2:zeK c d=1:=by unfold zeK;rw [if_neg (by omega),decide_eq_false (by omega),decide_eq_false (by omega)];rfl
   have S1:=zc4 a b wr;have S2:=zc4 c d wr;rw [es1] at S1;rw [es2] at S2;refine S1.mono ?_;rintro e w1 ⟨rfl,rfl⟩;go_wp2_with fail;refine S2.mono ?_;rintro e w1 ⟨rfl,rfl⟩;clear S1 S2 es1 es2;obtain ⟨x1,h1⟩:∃x,sz a=x:=⟨_,rfl⟩
   obtain ⟨x2,h2⟩:∃x,sz b=x:=⟨_,rfl⟩
   obtain ⟨x3,h3⟩:∃x,sz c=x:=⟨_,rfl⟩
   obtain ⟨x4,h4⟩:∃x,sz d=x:=⟨_,rfl⟩
   rw [h1,h2,h3,h4] at hlt;have Z1:=za (show ∀W,Calls Tryz.prog 98 #[a] W fun e w'=>e=.returned (.int .u64 x1)∧W=w' from fun W=>by rw [←h1];exact zA a W (by omega) (by omega));have Z2:=za (show ∀W,Calls Tryz.prog 98 #[b] W fun e w'=>e=.returned (.int .u64 x2)∧W=w' from fun W=>by rw [←h2];exact zA b W (by omega) (by omega));have Z3:=za (show ∀W,Calls Tryz.prog 98 #[c] W fun e w'=>e=.returned (.int .u64 x3)∧W=w' from fun W=>by rw [←h3];exact zA c W (by omega) (by omega))
   have Z4:=za (show ∀W,Calls Tryz.prog 98 #[d] W fun e w'=>e=.returned (.int .u64 x4)∧W=w' from fun W=>by rw [←h4];exact zA d W (by omega) (by omega));have b1:0≤x1∧x1<18446744073709551616:=by rw [←h1,zbJ (by omega)];omega
   have b2:0≤x2∧x2<18446744073709551616:=by rw [←h2,zbJ (by omega)];omega
   have b3:0≤x3∧x3<18446744073709551616:=by rw [←h3,zbJ (by omega)];omega
   have b4:0≤x4∧x4<18446744073709551616:=by rw [←h4,zbJ (by omega)];omega
   have T1:=za (zW x1 x2 b1 b2);have T2:=za (zW x3 x4 b3 b4);obtain ⟨p0,hp0⟩:∃x,hi x1 x2=x:=⟨_,rfl⟩
   obtain ⟨p1,hp1⟩:∃x,lo x1 x2=x:=⟨_,rfl⟩
   obtain ⟨q0,hq0⟩:∃x,hi x3 x4=x:=⟨_,rfl⟩
   obtain ⟨q1,hq1⟩:∃x,lo x3 x4=x:=⟨_,rfl⟩
   rw [hp0,hp1,hq0,hq1] at hlt;rw [hp0,hp1] at T1;rw [hq0,hq1] at T2;have BL:=za (show ∀W,Calls Tryz.prog 99 #[.agg #[.int .u64 p0,.int .u64 p1],.agg #[.int .u64 q0,.int .u64 q1]] W fun e w'=>e=.returned (.bool true)∧Below W.heap.size W w' from fun W=>by have h:=ZA p0 p1 q0 q1 W;rw [hlt] at h;exact h);clear hlt h1 h2 h3 h4 b1 b2 b3 b4 hp0 hp1 hq0 hq1;go_wp2_with fail;refine (Z1.out _).mono ?_
   rintro e w1 ⟨rfl,rfl⟩;go_wp2_with fail;refine (Z2.out _).mono ?_;rintro e w1 ⟨rfl,rfl⟩;go_wp2_with fail;refine (T1.out _).mono ?_;rintro e w1 ⟨rfl,hb1⟩;go_wp2_with fail;refine (Z3.out _).mono ?_;rintro e w2 ⟨rfl,rfl⟩;go_wp2_with fail;refine (Z4.out _).mono ?_;rintro e w2 ⟨rfl,rfl⟩;go_wp2_with fail;refine (T2.out _).mono ?_;rintro e w2 ⟨rfl,hb2⟩;go_wp2_with fail;have HB:=za (zg (zg (zi hb1 hb2) (.cells #[.int .u64 p0,.int .u64 p1] 158)) (.cells #[.int .u64 q0,.int .u64 q1] 158))
   clear hb1 hb2;refine (BL.out _).mono ?_;rintro e w3 ⟨rfl,hb3⟩;have HB3:=za (zi HB.out hb3);clear hb3;go_wp2_with fail;go_ret;exact ⟨rfl,HB3.out⟩
theorem VG (v l h x y:Int) (l0:0<l) (h0:0<h) (x0:0<x) (y0:0<y) (x1:x≤4611686018427387903) (y1:y≤4611686018427387903) (l1:l≤4611686018427387903) (h1:h≤4611686018427387903) (hf:Js v l h false=true)
  (hlt1:lt2 (hi (sz l) (sz y)) (lo (sz l) (sz y)) (hi (sz x) (sz 16777216)) (lo (sz x) (sz 16777216))=true) (hlt2:lt2 (hi (sz x) (sz 16777216)) (lo (sz x) (sz 16777216)) (hi (sz h) (sz y)) (lo (sz h) (sz y))=true) (w:World) :
  Calls Tryz.prog 31 #[.agg #[v,l,h,.bool false],x,y] w fun e w'=>e=.returned (.bool true)∧Below w.heap.size w w':=by
 have hu:=Tryz.underlying71;have FI:=za (show ∀W,Calls Tryz.prog 63 #[.agg #[v,l,h,.bool false]] W fun e w'=>e=.returned (.bool true)∧Below W.heap.size W w' from fun W=>by have H:=JX v l h false W;rw [hf] at H;exact H);have RX:=za (show ∀W,Calls Tryz.prog 64 #[x] W fun e w'=>e=.returned (.bool true)∧W=w' from fun W=>by have h:=zx x W;rw [show inW x=true from zr.mpr ⟨by omega,x1⟩] at h;exact h)
 have RY:=za (show ∀W,Calls Tryz.prog 64 #[y] W fun e w'=>e=.returned (.bool true)∧W=w' from fun W=>by have h:=zx y W;rw [show inW y=true from zr.mpr ⟨by omega,y1⟩] at h;exact h);have C1:=za (ZZ l y x 16777216 l0 y0 x0 (by omega) l1 y1 x1 (by omega) hlt1);have C2:=za (ZZ x 16777216 h y x0 (by omega) h0 y0 x1 (by omega) h1 y1 hlt2);have ny:¬y<1:=by omega
 clear hlt1 hlt2 hf;go_enter Tryz.func31,Tryz.ntmps31;go_wp2_with fail;have A0:=za (At.new w 71 #[v,l,h,.bool false]);have B0:=za (zg (Below.refl w.heap.size w) (.cells #[v,l,h,.bool false] 71));obtain ⟨W0,hW0⟩:=zc ((w.alloc (.cells #[v,l,h,.bool false] 71)));have hWg:=za (show W0.heap.size=w.heap.size+1 by rw [←hW0];simp);rw [hW0] at A0 B0 ⊢;clear hW0;obtain ⟨g,hg⟩:=zc (w.heap.size)
 rw [hg] at A0 B0 hWg
 try simp only [hg]
 obtain ⟨r0,r1,r2,r3⟩:=A0.out.four;go_wp2_with fail;refine (FI.out _).mono ?_;rintro e w1 ⟨rfl,hb1⟩;have A1:=za (A0.out.below hb1);have B1:=za (zi (show Below w.heap.size w W0 by rw [hg];exact B0.out) hb1);clear hb1 r0 r1 r2 r3;go_wp2_with fail;refine (RX.out _).mono ?_;rintro e w2 ⟨rfl,rfl⟩;go_wp2_with fail;refine (RY.out _).mono ?_;rintro e w2 ⟨rfl,rfl⟩;obtain ⟨r0,r1,r2,r3⟩:=A1.out.four
 go_wp2_with fail;refine (C1.out _).mono ?_;rintro e w2 ⟨rfl,hb2⟩;have A2:=za (A1.out.below hb2);have B2:=za (zi B1.out hb2);clear hb2 r0 r1 r2 r3;obtain ⟨r0,r1,r2,r3⟩:=A2.out.four;go_wp2_with fail;refine (C2.out _).mono ?_;rintro e w3 ⟨rfl,hb3⟩;have B3:=za (zi B2.out hb3);clear hb3;go_wp2_with fail;go_ret;exact ⟨rfl,B3.out⟩
end
end Go.Proofs.YtcoiklclbljjeaaGreatDoor.L
