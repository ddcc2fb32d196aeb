/- Lemmas of the card's proof. -/
import Derived.Test.YtcoiklclbljjeaaGreatDoorM22
set_option linter.unusedVariables false
set_option linter.unusedSimpArgs false
set_option maxRecDepth 100000
set_option maxHeartbeats 16000000
namespace Go.Proofs.YtcoiklclbljjeaaGreatDoor.L
open Go.RowKit
theorem Xbj {P:Prop} (h:P:=by
 clear k1;go_enter Tryz.func113,Tryz.ntmps113;go_wp2
 all_goals (go_ret;exact ⟨by rw [E.out];rfl,zg (Below.refl _ _) _⟩)) : P := h
theorem Xas {P:Prop} (h:P:=by
 obtain ⟨bx,b0,hsz⟩:=z6 hW0;rw [hW0];clear hW0;have F:=za (Off.start b0 hsz);have BX:=za bx;clear bx b0 hsz;obtain ⟨g,hg⟩:=zc (w.heap.size);rw [hg] at F BX
 try simp only [hg]
 have x0:=(BX.out.1).cell 0;have x1:=(BX.out.1).cell 1;have x2:=(BX.out.1).cell 2;have x3:=(BX.out.1).cell 3;go_wp2_with fail
 all_goals go_ret
 all_goals exact ⟨rfl,by first | exact F.out.out|(rw [hg];exact F.out.out)⟩) : P := h
section
attribute [local go_sem] Oper.semAt_some
def yG (m l c s:Int):Value:=.agg #[m,l,c,s]
def zcI (m s:Int):Prop:=(m=0∧s=0)∨(m=1∧0≤s∧s≤65536)∨(m=3∧0≤s∧s≤65537)
theorem zly (w:World):(binOp .eql 61 (.agg #[.int .i64 0,.int .i64 0,.int .i64 0,.int .i64 0]) (.agg #[.int .i64 0,.int .i64 0,.int .i64 0,.int .i64 0])).run Tryz.prog w=.ok (.bool true) w:=by kernel_rfl
def Qs (m:Int):Bool:=m==1 || m==2
theorem vp (m l c s:Int) (w:World):Calls Tryz.prog 113 #[.agg #[m,l,c,s]] w fun e w'=>e=.returned (.bool (Qs m))∧Below w.heap.size w w':=by
 have hu:=Tryz.underlying61
 by_cases k1:m=1
 ·have E:=za (show Qs m=true by unfold Qs;rw [beq_iff_eq.mpr k1];rfl)
  have b1:(m==1)=true:=beq_iff_eq.mpr k1;exact Xbj
 ·have b1:(m==1)=false:=beq_eq_false_iff_ne.mpr k1
  have E:=za (show Qs m=(m==2) by unfold Qs;rw [b1];rfl);exact Xbj
theorem vq (m s:Int) (h:zcI m s) (w:World):Calls Tryz.prog 112 #[yG m 0 0 s] w fun e w'=>e=.returned (.bool true)∧Below w.heap.size w w':=by
 have hu:=Tryz.underlying61;have hq:=zly;unfold yG;rcases h with ⟨rfl,rfl⟩|⟨rfl,h0,h1⟩|⟨rfl,h0,h1⟩
 ·go_enter Tryz.func112,Tryz.ntmps112
  go_wp2_with fail;obtain ⟨W0,hW0⟩:=zc ((w.alloc (.cells #[.int .i64 0,.int .i64 0,.int .i64 0,.int .i64 0] 61)));exact Xas
 ·go_enter Tryz.func112,Tryz.ntmps112
  go_wp2_with fail;obtain ⟨W0,hW0⟩:=zc ((w.alloc (.cells #[.int .i64 1,.int .i64 0,.int .i64 0,s] 61)));exact Xas
 ·by_cases h2:s≤65536
  all_goals
   go_enter Tryz.func112,Tryz.ntmps112;go_wp2_with fail;obtain ⟨W0,hW0⟩:=zc ((w.alloc (.cells #[.int .i64 3,.int .i64 0,.int .i64 0,s] 61)));exact Xas
theorem zeD (m s:Int) (h:zcI m s) (w:World):Calls Tryz.prog 106 #[yG m 0 0 s,.agg #[.int .i64 1,.int .i64 (0)]] w fun e w'=>e=.returned (yG 1 0 0 0)∧Below w.heap.size w w':=by
 have hu:=Tryz.underlying61;have hu2:=Tryz.underlying174;have R:=za (fun W=>vq m s (h) W);have V:=za (fun W=>vp m 0 0 s W);unfold yG at R;unfold yG;go_enter Tryz.func106,Tryz.ntmps106;go_wp2_with fail;obtain ⟨W0,hW0⟩:=zc ((((w.alloc (.cells #[m,.int .i64 0,.int .i64 0,s] 61)).alloc (.cells #[.int .i64 1,.int .i64 (0)] 174)).alloc (.cells #[.int .i64 0,.int .i64 0,.int .i64 0,.int .i64 0] 61)))
 obtain ⟨bx,b0,hsz⟩:=Jq hW0;rw [hW0];clear hW0;have F:=za (Off.start b0 hsz);have BX:=za bx;clear bx b0 hsz;obtain ⟨g,hg⟩:=zc (w.heap.size);rw [hg] at F BX
 try simp only [hg]
 try go_wp2_with fail
 have x0:=(BX.out.1).cell 0;have x1:=(BX.out.1).cell 1;have x2:=(BX.out.1).cell 2;have x3:=(BX.out.1).cell 3;have e0:=(BX.out.2.1).cell 0;have e1:=(BX.out.2.1).cell 1
 try go_wp2_with fail
 refine (R.out _).mono ?_;rintro e w1 ⟨rfl,hb⟩;replace F:=zd F hb;replace BX:=ze BX hb;clear hb x0 x1 x2 x3 e0 e1;have x0:=(BX.out.1).cell 0;have x1:=(BX.out.1).cell 1;have x2:=(BX.out.1).cell 2;have x3:=(BX.out.1).cell 3;have e0:=(BX.out.2.1).cell 0;have e1:=(BX.out.2.1).cell 1;have z0:=(BX.out.2.2.1).cell 0;have zz0:=(BX.out.2.2.1).frozen 0;have z1:=(BX.out.2.2.1).cell 1;have zz1:=(BX.out.2.2.1).frozen 1
 have z2:=(BX.out.2.2.1).cell 2;have zz2:=(BX.out.2.2.1).frozen 2;have z3:=(BX.out.2.2.1).cell 3;have zz3:=(BX.out.2.2.1).frozen 3;go_wp2_with fail;have F9:=F.out.set4 (g:=g+1+1) (.inl (by omega)) (.int .i64 1) (.int .i64 0) (.int .i64 0) (.int .i64 0);obtain ⟨d0,d1,d2,d3⟩:=((BX.out.2.2.1).set4 (.int .i64 1) (.int .i64 0) (.int .i64 0) (.int .i64 0)).four;exact bodyPost_ret (v:=.agg #[.int .i64 1,.int .i64 0,.int .i64 0,.int .i64 0]) (by simp [results,Tryz.results106,go_sem,d0,d1,d2,d3]) rfl ⟨rfl,by first | (rw [hg];exact F9.out)|exact F9.out⟩
theorem zfJ (s:Int) (h0:0≤s) (h1:s≤65536) (w:World):Calls Tryz.prog 106 #[yG 1 0 0 s,.agg #[.int .i64 4,.int .i64 (-1)]] w fun e w'=>e=.returned (yG 3 0 0 s)∧Below w.heap.size w w':=by
 have hu:=Tryz.underlying61;have hu2:=Tryz.underlying174;have R:=za (fun W=>vq 1 s ((.inr (.inl ⟨rfl,h0,h1⟩))) W);have V:=za (fun W=>vp 1 0 0 s W);unfold yG at R;unfold yG;go_enter Tryz.func106,Tryz.ntmps106;go_wp2_with fail;obtain ⟨W0,hW0⟩:=zc ((((w.alloc (.cells #[.int .i64 1,.int .i64 0,.int .i64 0,s] 61)).alloc (.cells #[.int .i64 4,.int .i64 (-1)] 174)).alloc (.cells #[.int .i64 0,.int .i64 0,.int .i64 0,.int .i64 0] 61)))
 obtain ⟨bx,b0,hsz⟩:=Jq hW0;rw [hW0];clear hW0;have F:=za (Off.start b0 hsz);have BX:=za bx;clear bx b0 hsz;obtain ⟨g,hg⟩:=zc (w.heap.size);rw [hg] at F BX
 try simp only [hg]
 try go_wp2_with fail
 have x0:=(BX.out.1).cell 0;have x1:=(BX.out.1).cell 1;have x2:=(BX.out.1).cell 2;have x3:=(BX.out.1).cell 3;have e0:=(BX.out.2.1).cell 0;have e1:=(BX.out.2.1).cell 1
 try go_wp2_with fail
 refine (R.out _).mono ?_;rintro e w1 ⟨rfl,hb⟩;replace F:=zd F hb;replace BX:=ze BX hb;clear hb x0 x1 x2 x3 e0 e1;have x0:=(BX.out.1).cell 0;have x1:=(BX.out.1).cell 1;have x2:=(BX.out.1).cell 2;have x3:=(BX.out.1).cell 3;have e0:=(BX.out.2.1).cell 0;have e1:=(BX.out.2.1).cell 1;have z0:=(BX.out.2.2.1).cell 0;have zz0:=(BX.out.2.2.1).frozen 0;have z1:=(BX.out.2.2.1).cell 1;have zz1:=(BX.out.2.2.1).frozen 1
 have z2:=(BX.out.2.2.1).cell 2;have zz2:=(BX.out.2.2.1).frozen 2;have z3:=(BX.out.2.2.1).cell 3;have zz3:=(BX.out.2.2.1).frozen 3;go_wp2_with fail;refine (V.out _).mono ?_;rintro e w2 ⟨rfl,hb⟩;simp only [show Qs 1=true from rfl];replace F:=zd F hb;replace BX:=ze BX hb;clear hb x0 x1 x2 x3 e0 e1 z0 zz0 z1 zz1 z2 zz2 z3 zz3;have x0:=(BX.out.1).cell 0;have x1:=(BX.out.1).cell 1;have x2:=(BX.out.1).cell 2
 have x3:=(BX.out.1).cell 3;have y0:=(BX.out.1).cell 0;have zy0:=(BX.out.1).frozen 0;have e0:=(BX.out.2.1).cell 0;have e1:=(BX.out.2.1).cell 1;replace F:=za (F.out.set (g:=g) (.inl (by omega)) 0 (.int .i64 3));replace BX:Hid (zP (w2.setCell ⟨g,0,none⟩ (.int .i64 3)) g [(61,#[.int .i64 3,.int .i64 0,.int .i64 0,s]),(174,#[.int .i64 4,.int .i64 (-1)]),(61,#[.int .i64 0,.int .i64 0,.int .i64 0,.int .i64 0])]):=za (BX.out.set 0 0 (.int .i64 3))
 have r0:=(BX.out.1).cell 0;have r1:=(BX.out.1).cell 1;have r2:=(BX.out.1).cell 2;have r3:=(BX.out.1).cell 3;have z0:=(BX.out.2.2.1).cell 0;have zz0:=(BX.out.2.2.1).frozen 0;have z1:=(BX.out.2.2.1).cell 1;have zz1:=(BX.out.2.2.1).frozen 1;have z2:=(BX.out.2.2.1).cell 2;have zz2:=(BX.out.2.2.1).frozen 2;have z3:=(BX.out.2.2.1).cell 3;have zz3:=(BX.out.2.2.1).frozen 3;go_wp2_with fail
 have F9:=F.out.set4 (g:=g+1+1) (.inl (by omega)) (.int .i64 3) (.int .i64 0) (.int .i64 0) s;obtain ⟨d0,d1,d2,d3⟩:=((BX.out.2.2.1).set4 (.int .i64 3) (.int .i64 0) (.int .i64 0) s).four;exact bodyPost_ret (v:=.agg #[.int .i64 3,.int .i64 0,.int .i64 0,s]) (by simp [results,Tryz.results106,go_sem,d0,d1,d2,d3]) rfl ⟨rfl,by first | (rw [hg];exact F9.out)|exact F9.out⟩
theorem zfK (s:Int) (h0:0≤s) (h1:s≤65536) (w:World):Calls Tryz.prog 106 #[yG 1 0 0 s,.agg #[.int .i64 2,.int .i64 (-1)]] w fun e w'=>e=.returned (yG (if 65536<s+1 then 3 else 1) 0 0 (s+1))∧Below w.heap.size w w':=by
 have hu:=Tryz.underlying61;have hu2:=Tryz.underlying174;have R:=za (fun W=>vq 1 s ((.inr (.inl ⟨rfl,h0,h1⟩))) W);have V:=za (fun W=>vp 1 0 0 s W);unfold yG at R;unfold yG;go_enter Tryz.func106,Tryz.ntmps106;go_wp2_with fail;obtain ⟨W0,hW0⟩:=zc ((((w.alloc (.cells #[.int .i64 1,.int .i64 0,.int .i64 0,s] 61)).alloc (.cells #[.int .i64 2,.int .i64 (-1)] 174)).alloc (.cells #[.int .i64 0,.int .i64 0,.int .i64 0,.int .i64 0] 61)))
 obtain ⟨bx,b0,hsz⟩:=Jq hW0;rw [hW0];clear hW0;have F:=za (Off.start b0 hsz);have BX:=za bx;clear bx b0 hsz;obtain ⟨g,hg⟩:=zc (w.heap.size);rw [hg] at F BX
 try simp only [hg]
 try go_wp2_with fail
 have x0:=(BX.out.1).cell 0;have x1:=(BX.out.1).cell 1;have x2:=(BX.out.1).cell 2;have x3:=(BX.out.1).cell 3;have e0:=(BX.out.2.1).cell 0;have e1:=(BX.out.2.1).cell 1
 try go_wp2_with fail
 refine (R.out _).mono ?_;rintro e w1 ⟨rfl,hb⟩;replace F:=zd F hb;replace BX:=ze BX hb;clear hb x0 x1 x2 x3 e0 e1;have x0:=(BX.out.1).cell 0;have x1:=(BX.out.1).cell 1;have x2:=(BX.out.1).cell 2;have x3:=(BX.out.1).cell 3;have e0:=(BX.out.2.1).cell 0;have e1:=(BX.out.2.1).cell 1;have z0:=(BX.out.2.2.1).cell 0;have zz0:=(BX.out.2.2.1).frozen 0;have z1:=(BX.out.2.2.1).cell 1;have zz1:=(BX.out.2.2.1).frozen 1
 have z2:=(BX.out.2.2.1).cell 2;have zz2:=(BX.out.2.2.1).frozen 2;have z3:=(BX.out.2.2.1).cell 3;have zz3:=(BX.out.2.2.1).frozen 3;go_wp2_with fail;refine (V.out _).mono ?_;rintro e w2 ⟨rfl,hb⟩;simp only [show Qs 1=true from rfl];replace F:=zd F hb;replace BX:=ze BX hb;clear hb x0 x1 x2 x3 e0 e1 z0 zz0 z1 zz1 z2 zz2 z3 zz3
 by_cases hs:65536<s+1
 case pos =>
  have x0:=(BX.out.1).cell 0;have x1:=(BX.out.1).cell 1;have x2:=(BX.out.1).cell 2;have x3:=(BX.out.1).cell 3;have y3:=(BX.out.1).cell 3;have zy3:=(BX.out.1).frozen 3;have e0:=(BX.out.2.1).cell 0;have e1:=(BX.out.2.1).cell 1;replace F:=za (F.out.set (g:=g) (.inl (by omega)) 3 (.int .i64 (s+1)));replace BX:Hid (zP (w2.setCell ⟨g,3,none⟩ (.int .i64 (s+1))) g [(61,#[.int .i64 1,.int .i64 0,.int .i64 0,.int .i64 (s+1)]),(174,#[.int .i64 2,.int .i64 (-1)]),(61,#[.int .i64 0,.int .i64 0,.int .i64 0,.int .i64 0])]):=za (BX.out.set 0 3 (.int .i64 (s+1)))
  have r0:=(BX.out.1).cell 0;have r1:=(BX.out.1).cell 1;have r2:=(BX.out.1).cell 2;have r3:=(BX.out.1).cell 3;have s0:=(BX.out.1).cell 0;have zs0:=(BX.out.1).frozen 0;have s2:=(BX.out.1).cell 2;have zs2:=(BX.out.1).frozen 2;have u0:=(BX.out.2.1).cell 0;have u1:=(BX.out.2.1).cell 1;replace F:=za (F.out.set (g:=g) (.inl (by omega)) 0 (.int .i64 3));replace BX:Hid (zP ((w2.setCell ⟨g,3,none⟩ (.int .i64 (s+1))).setCell ⟨g,0,none⟩ (.int .i64 3)) g [(61,#[.int .i64 3,.int .i64 0,.int .i64 0,.int .i64 (s+1)]),(174,#[.int .i64 2,.int .i64 (-1)]),(61,#[.int .i64 0,.int .i64 0,.int .i64 0,.int .i64 0])]):=za (BX.out.set 0 0 (.int .i64 3))
  have t0:=(BX.out.1).cell 0;have t1:=(BX.out.1).cell 1;have t2:=(BX.out.1).cell 2;have t3:=(BX.out.1).cell 3;have z0:=(BX.out.2.2.1).cell 0;have zz0:=(BX.out.2.2.1).frozen 0;have z1:=(BX.out.2.2.1).cell 1;have zz1:=(BX.out.2.2.1).frozen 1;have z2:=(BX.out.2.2.1).cell 2;have zz2:=(BX.out.2.2.1).frozen 2;have z3:=(BX.out.2.2.1).cell 3;have zz3:=(BX.out.2.2.1).frozen 3;go_wp2_with fail
  have F9:=F.out.set4 (g:=g+1+1) (.inl (by omega)) (.int .i64 3) (.int .i64 0) (.int .i64 0) (.int .i64 (s+1));obtain ⟨d0,d1,d2,d3⟩:=((BX.out.2.2.1).set4 (.int .i64 3) (.int .i64 0) (.int .i64 0) (.int .i64 (s+1))).four;exact bodyPost_ret (v:=.agg #[.int .i64 3,.int .i64 0,.int .i64 0,.int .i64 (s+1)]) (by simp [results,Tryz.results106,go_sem,d0,d1,d2,d3]) rfl ⟨by first | rfl|rw [if_pos hs]|rw [if_pos (by omega)],by first | (rw [hg];exact F9.out)|exact F9.out⟩
 case neg =>
  have x0:=(BX.out.1).cell 0;have x1:=(BX.out.1).cell 1;have x2:=(BX.out.1).cell 2;have x3:=(BX.out.1).cell 3;have y3:=(BX.out.1).cell 3;have zy3:=(BX.out.1).frozen 3;have e0:=(BX.out.2.1).cell 0;have e1:=(BX.out.2.1).cell 1;replace F:=za (F.out.set (g:=g) (.inl (by omega)) 3 (.int .i64 (s+1)));replace BX:Hid (zP (w2.setCell ⟨g,3,none⟩ (.int .i64 (s+1))) g [(61,#[.int .i64 1,.int .i64 0,.int .i64 0,.int .i64 (s+1)]),(174,#[.int .i64 2,.int .i64 (-1)]),(61,#[.int .i64 0,.int .i64 0,.int .i64 0,.int .i64 0])]):=za (BX.out.set 0 3 (.int .i64 (s+1)))
  have r0:=(BX.out.1).cell 0;have r1:=(BX.out.1).cell 1;have r2:=(BX.out.1).cell 2;have r3:=(BX.out.1).cell 3;have s0:=(BX.out.1).cell 0;have zs0:=(BX.out.1).frozen 0;have s2:=(BX.out.1).cell 2;have zs2:=(BX.out.1).frozen 2;have u0:=(BX.out.2.1).cell 0;have u1:=(BX.out.2.1).cell 1;replace F:=za (F.out.set (g:=g) (.inl (by omega)) 2 (.int .i64 0));replace BX:Hid (zP ((w2.setCell ⟨g,3,none⟩ (.int .i64 (s+1))).setCell ⟨g,2,none⟩ (.int .i64 0)) g [(61,#[.int .i64 1,.int .i64 0,.int .i64 0,.int .i64 (s+1)]),(174,#[.int .i64 2,.int .i64 (-1)]),(61,#[.int .i64 0,.int .i64 0,.int .i64 0,.int .i64 0])]):=za (BX.out.set 0 2 (.int .i64 0))
  have t0:=(BX.out.1).cell 0;have t1:=(BX.out.1).cell 1;have t2:=(BX.out.1).cell 2;have t3:=(BX.out.1).cell 3;have z0:=(BX.out.2.2.1).cell 0;have zz0:=(BX.out.2.2.1).frozen 0;have z1:=(BX.out.2.2.1).cell 1;have zz1:=(BX.out.2.2.1).frozen 1;have z2:=(BX.out.2.2.1).cell 2;have zz2:=(BX.out.2.2.1).frozen 2;have z3:=(BX.out.2.2.1).cell 3;have zz3:=(BX.out.2.2.1).frozen 3;go_wp2_with fail
  have F9:=F.out.set4 (g:=g+1+1) (.inl (by omega)) (.int .i64 1) (.int .i64 0) (.int .i64 0) (.int .i64 (s+1));obtain ⟨d0,d1,d2,d3⟩:=((BX.out.2.2.1).set4 (.int .i64 1) (.int .i64 0) (.int .i64 0) (.int .i64 (s+1))).four;exact bodyPost_ret (v:=.agg #[.int .i64 1,.int .i64 0,.int .i64 0,.int .i64 (s+1)]) (by simp [results,Tryz.results106,go_sem,d0,d1,d2,d3]) rfl ⟨by first | rfl|rw [if_neg hs]|rw [if_neg (by omega)],by first | (rw [hg];exact F9.out)|exact F9.out⟩
end
theorem Xai {P:Prop} (h:P:=by
 replace F:=zd F hb;replace BX:=ze BX hb;clear hb x0 x1 x2 x3;go_wp2_with fail;refine wp_loop_rounds 4 ?_;iterate 4 (rw [rounds_succ];go_wp2_with fail)
 go_ret;have hB:=F.out.out;have hh:=F.out.hiw
 first | exact ⟨rfl,by first | (rw [hg];exact hB)|exact hB⟩|exact ⟨rfl,by first | (rw [hg];exact hB.alloc (by omega) _)|exact hB.alloc (by omega) _⟩|exact ⟨rfl,by first | (rw [hg];exact (hB.alloc (by omega) _).alloc (by simp;omega) _)|exact (hB.alloc (by omega) _).alloc (by simp;omega) _⟩) : P := h
theorem Xay {P:Prop} (h:P:=by
 go_wp2_with fail;obtain ⟨W0,hW0⟩:=zc ((w.alloc (.cells #[.int .i64 1,.int .i64 0,.int .i64 0,s] 61)));obtain ⟨bx,b0,hsz⟩:=z6 hW0;rw [hW0];clear hW0;have F:=za (Off.start b0 hsz);have BX:=za bx;clear bx b0 hsz;obtain ⟨g,hg⟩:=zc (w.heap.size);rw [hg] at F BX
 try simp only [hg]
 try go_wp2_with fail
 have x0:=(BX.out.1).cell 0;have x1:=(BX.out.1).cell 1;have x2:=(BX.out.1).cell 2;have x3:=(BX.out.1).cell 3
 try go_wp2_with fail
 refine (R.out _).mono ?_;rintro e w1 ⟨rfl,hb⟩;replace F:=zd F hb;replace BX:=ze BX hb;clear hb x0 x1 x2 x3;have x0:=(BX.out.1).cell 0;have x1:=(BX.out.1).cell 1;have x2:=(BX.out.1).cell 2;have x3:=(BX.out.1).cell 3;go_wp2_with fail;refine (V.out _).mono ?_;rintro e w2 ⟨rfl,hb⟩;simp only [show Qs 1=true from rfl];exact Xai) : P := h
theorem Xat {P:Prop} (h:P:=by
 go_wp2_with fail;obtain ⟨W0,hW0⟩:=zc ((w.alloc (.cells #[.int .i64 3,.int .i64 0,.int .i64 0,s] 61)));obtain ⟨bx,b0,hsz⟩:=z6 hW0;rw [hW0];clear hW0;have F:=za (Off.start b0 hsz);have BX:=za bx;clear bx b0 hsz;obtain ⟨g,hg⟩:=zc (w.heap.size);rw [hg] at F BX
 try simp only [hg]
 try go_wp2_with fail
 have x0:=(BX.out.1).cell 0;have x1:=(BX.out.1).cell 1;have x2:=(BX.out.1).cell 2;have x3:=(BX.out.1).cell 3
 try go_wp2_with fail
 refine (R.out _).mono ?_;rintro e w1 ⟨rfl,hb⟩;replace F:=zd F hb;replace BX:=ze BX hb;clear hb x0 x1 x2 x3;have x0:=(BX.out.1).cell 0;have x1:=(BX.out.1).cell 1;have x2:=(BX.out.1).cell 2;have x3:=(BX.out.1).cell 3;go_wp2_with fail;refine (V.out _).mono ?_;rintro e w2 ⟨rfl,hb⟩;simp only [show Qs 3=false from rfl];exact Xai) : P := h
section
attribute [local go_sem] Oper.semAt_some
def qS (m:Int) (ru:Bool):Int:=m+(if ru=true then 16 else 0)+(if m=1 then 32 else 0)
theorem Yz (m s:Int) (ru:Bool) (hm:m=1∨m=3) (h:zcI m s) (w:World):Calls Tryz.prog 111 #[yG m 0 0 s,.bool false,ru] w fun e w'=>e=.returned (.int .i64 (qS m ru))∧Below w.heap.size w w':=by
 have hu:=Tryz.underlying61;have hu2:Tryz.prog.underlying 208=some (.array 3 4):=by kernel_rfl
 have i0:∀(a b c:Bool) (w:World),(Instr.index 208 (.agg #[.bool a,b,c]) (.int .i64 0)).run Tryz.prog w=.ok a w:=fun _ _ _ _=>by kernel_rfl
 have i1:∀(a b c:Bool) (w:World),(Instr.index 208 (.agg #[.bool a,b,c]) (.int .i64 1)).run Tryz.prog w=.ok b w:=fun _ _ _ _=>by kernel_rfl
 have i2:∀(a b c:Bool) (w:World),(Instr.index 208 (.agg #[.bool a,b,c]) (.int .i64 2)).run Tryz.prog w=.ok c w:=fun _ _ _ _=>by kernel_rfl
 have R:=za (fun W=>vq m s h W);have V:=za (fun W=>vp m 0 0 s W);unfold yG at R;unfold yG;clear h;rcases hm with rfl|rfl<;>cases ru
 ·go_enter Tryz.func111,Tryz.ntmps111
  exact Xay
 ·go_enter Tryz.func111,Tryz.ntmps111
  exact Xay
 ·go_enter Tryz.func111,Tryz.ntmps111
  exact Xat
 ·go_enter Tryz.func111,Tryz.ntmps111
  exact Xat
end
section
attribute [local go_sem] Oper.semAt_some
def vr (l:List Num):List Int:=l.map (·.v)
theorem Yy (A:Option Addr) (n c:Nat) (xs:List Num) (hn:n≤1000) (w:World) (hx:zk w A n c xs):Calls Tryz.prog 114 #[.slice A n c] w (zhq (vr xs) w):=by
 have HX:=za hx;have LX:=za hx.1;have hcap:=hx.2.1;clear hx;have hu:=Tryz.underlying71;go_enter Tryz.func114,Tryz.ntmps114;go_wp2_with fail
 go_loopw [3,5,8] (fun v _ i wr=>∃k:Nat,k≤n∧i=.int .i64 k∧Hid (qH wr w.heap.size v (vr (xs.take k)))∧Hid (Below w.heap.size w wr)) (fun _ _ i _=>n-(intOf i).toNat)
 case atStart=>exact ⟨0,by omega,rfl,za (qH.nil_ _ _),za (Below.refl _ _)⟩
 case round =>
  obtain ⟨k,hk,rfl,HO,HB⟩:=hrel
  by_cases hlt:k<n
  ·obtain ⟨b,o,x,rfl,hxk,x0,x1,x2,x3⟩:=(HX.out.below HB.out).at_ (k:=k) hlt
   have HT:=za (show vr (xs.take k)++[x.v]=vr (xs.take (k+1)) by rw [jT hxk];simp [vr]);have HL:=za (show (vr (xs.take k)).length≤1000 by unfold vr;rw [List.length_map,List.length_take];omega);obtain ⟨L,hL⟩:=zc (vr (xs.take k));rw [hL] at HO HL HT;clear hxk hL;obtain ⟨xv,xl,xh,xb⟩:=x;dsimp only at x0 x1 x2 x3 HT;have hsz:=HB.out.size;go_wp2_with (at_builtin;refine vA rfl (.tmp 12) (.tmp 15) rfl w.heap.size u3 L xv _ rfl ((HO.out.alloc _).alloc _) rfl (At.new' (by simp)) HL.out (by simp;omega) ?_;intro g1 cc1 w3 hown hgrow hat hg1;have O3:=za hown;have K3:=za (((HB.out.alloc hsz _).alloc (by simp;omega) _).grown hgrow (by simp;omega) (fun k hk=>(World.ownsRow.lt HO.out k hk).1));clear hown hgrow hat hg1)
   exact XaB
  ·have e:xs.take k=xs:=List.take_of_length_le (by rw [LX.out];omega)
   rw [e] at HO;clear e;go_wp2_with fail;go_ret;exact ⟨u3,rfl,HO.out,HB.out⟩
end
section
attribute [local go_sem] Oper.semAt_some
def zay (n:Nat) (l:List Num) (i k:Nat):Num:=if i<k then Num.of 0 else atM n l i k
def Qq (n:Nat) (l:List Num):List Num:=zg8 n (zay n l)
theorem zfO (n:Nat) (A:Option Addr) (m cp:Nat) (l:List Num) (hs:zt n n l) (q g:Nat) (i k:Nat) (hi:i<n) (hk:k<n) (w:World) (hl:zk w A m cp l) (hq:At w q 71 #[.int .i64 0,.int .i64 0,.int .i64 0,.bool false]) (hg:At w g 65 #[.int .i64 (n:Int),.int .i64 (n:Int),.slice A m cp]) :
  Calls Tryz.prog 170 #[.int .i64 (i:Int),.int .i64 (k:Int),.pointer (some ⟨q,0,none⟩),.pointer (some ⟨g,0,none⟩)] w fun e w'=>e=.returned (zay n l i k).val∧Below w.heap.size w w':=by
 have hu:=Tryz.underlying65;have hu1:=Tryz.underlying71;have O:=za (fun W=>zep ⟨0,0,0,false⟩ 0 W);have AT:=za (fun (W:World) (h:zk W A m cp l)=>zd4 n n A m cp l hs i k hi hk W h);have hm:=fun W=>zbp 0 0 0 false W;have HL:=za hl;have HQ:=za hq;have HG:=za hg;have E:=za (show zay n l i k=if i<k then Num.of 0 else atM n l i k from rfl);have hn16:=hs.r2;obtain ⟨y,hy⟩:=zc (Num.of 0)
 obtain ⟨x,hx⟩:=zc (atM n l i k);rw [hy] at O E;rw [hx] at AT E;obtain ⟨yv,yl,yh,yb⟩:=y;obtain ⟨xv,xl,xh,xb⟩:=x;unfold Num.val at O AT;unfold zE at AT;dsimp only at O AT;clear hl hq hg hy hx
 by_cases hik:i<k
 ·have hik':(i:Int)<(k:Int):=by omega
  rw [E.out,if_pos hik];unfold Num.val;obtain ⟨q0,q1,q2,q3⟩:=(HQ.out.alloc (.cells #[.int .i64 0,.int .i64 0,.int .i64 0,.bool false] 71)).four;go_enter Tryz.func170,Tryz.ntmps170;go_wp2_with fail;have A0:=za (At.new w 71 #[.int .i64 0,.int .i64 0,.int .i64 0,.bool false]);have B0:=za (zg (Below.refl w.heap.size w) (.cells #[.int .i64 0,.int .i64 0,.int .i64 0,.bool false] 71))
  obtain ⟨W0,hW0⟩:=zc ((w.alloc (.cells #[.int .i64 0,.int .i64 0,.int .i64 0,.bool false] 71)));have hWg:=za (show W0.heap.size=w.heap.size+1 by rw [←hW0];simp);rw [hW0] at A0 B0 ⊢;clear hW0;obtain ⟨h,hh⟩:=zc (w.heap.size);rw [hh] at A0 B0 hWg
  try simp only [hh]
  clear q0 q1 q2 q3;refine (O.out _).mono ?_;rintro e w1 ⟨rfl,hb1⟩;have A8':=za (A0.out.below hb1);have K1:=za hb1;clear hb1;obtain ⟨r0,r1,r2,r3⟩:=A8'.out.four;have z0:=A8'.out.frozen 0;have z1:=A8'.out.frozen 1;have z2:=A8'.out.frozen 2;have z3:=A8'.out.frozen 3;go_wp2_with fail;have hk4:=((A8'.out.set4 yv yl yh yb))
  obtain ⟨d0,d1,d2,d3⟩:=hk4.four;have hbl:=zq B0.out (by rw [hWg.out];omega) K1.out;exact bodyPost_ret (v:=.agg #[yv,yl,yh,yb]) (by simp [results,Tryz.results170,go_sem,d0,d1,d2,d3]) rfl ⟨rfl,by rw [hh];exact Je hbl (by omega) _ _ _ _⟩
 ·have hik':¬(i:Int)<(k:Int):=by omega
  rw [E.out,if_neg hik];unfold Num.val;obtain ⟨q0,q1,q2⟩:=(HG.out.alloc (.cells #[.int .i64 0,.int .i64 0,.int .i64 0,.bool false] 71)).three;go_enter Tryz.func170,Tryz.ntmps170;go_wp2_with fail;have A0:=za (At.new w 71 #[.int .i64 0,.int .i64 0,.int .i64 0,.bool false]);have B0:=za (zg (Below.refl w.heap.size w) (.cells #[.int .i64 0,.int .i64 0,.int .i64 0,.bool false] 71));obtain ⟨W0,hW0⟩:=zc ((w.alloc (.cells #[.int .i64 0,.int .i64 0,.int .i64 0,.bool false] 71)))
  have hWg:=za (show W0.heap.size=w.heap.size+1 by rw [←hW0];simp);rw [hW0] at A0 B0 ⊢;clear hW0;obtain ⟨h,hh⟩:=zc (w.heap.size);rw [hh] at A0 B0 hWg
  try simp only [hh]
  clear q0 q1 q2;have NL:=za (HL.out.below (by rw [hh];exact B0.out));refine (AT.out _ NL.out).mono ?_;rintro e w1 ⟨rfl,hb1⟩;have A8':=za (A0.out.below hb1);have K1:=za hb1;clear hb1;obtain ⟨r0,r1,r2,r3⟩:=A8'.out.four;have z0:=A8'.out.frozen 0;have z1:=A8'.out.frozen 1;have z2:=A8'.out.frozen 2;have z3:=A8'.out.frozen 3;go_wp2_with fail;have hk4:=((A8'.out.set4 xv xl xh xb))
  obtain ⟨d0,d1,d2,d3⟩:=hk4.four;have hbl:=zq B0.out (by rw [hWg.out];omega) K1.out;exact bodyPost_ret (v:=.agg #[xv,xl,xh,xb]) (by simp [results,Tryz.results170,go_sem,d0,d1,d2,d3]) rfl ⟨rfl,by rw [hh];exact Je hbl (by omega) _ _ _ _⟩
theorem zih (args:Array Value) (W:World):(callFunc 170 args).run Tryz.prog W=.ok (.enter 170 args) W:=enters_of Tryz.func170 (by kernel_rfl) rfl args W
theorem zt.clear {n:Nat} {l:List Num} (h:zt n n l):zt n n (Qq n l):=zt.grid _ h.r1 h.r2
theorem zbI (n:Nat) (A:Option Addr) (m cp:Nat) (l:List Num) (hs:zt n n l) (w:World) (hl:zk w A m cp l):Calls Tryz.prog 149 #[zE n n A m cp] w (qM n n (Qq n l) w):=by
 have hu:=Tryz.underlying65;have hu1:=Tryz.underlying71;have R:=za (fun W=>zbH n A m cp l hs hl.1 W);have HL:=za hl
 have M:=za (fun (q g:Nat) (W:World) (h1:zk W A m cp l) (h2:At W q 71 #[.int .i64 0,.int .i64 0,.int .i64 0,.bool false]) (h3:At W g 65 #[.int .i64 (n:Int),.int .i64 (n:Int),.slice A m cp]) =>
  zhx 170 #[.pointer (some ⟨q,0,none⟩),.pointer (some ⟨g,0,none⟩)] (zay n l) zih n hs.r1 hs.r2 W (fun W' hb i k hi hk=>zfO n A m cp l hs q g i k hi hk W' (h1.below hb) (h2.below hb) (h3.below hb)))
 clear hl;unfold zE at R;unfold zE;go_enter Tryz.func149,Tryz.ntmps149;go_wp2_with fail;have A0:=za ((At.new w 65 #[.int .i64 (n:Int),.int .i64 (n:Int),.slice A m cp]).alloc (.cells #[.int .i64 0,.int .i64 0,.slice none 0 0] 65));have A1:=za (At.new (w.alloc (.cells #[.int .i64 (n:Int),.int .i64 (n:Int),.slice A m cp] 65)) 65 #[.int .i64 0,.int .i64 0,.slice none 0 0]);have B0:=za (zg (zg (Below.refl w.heap.size w) (.cells #[.int .i64 (n:Int),.int .i64 (n:Int),.slice A m cp] 65)) (.cells #[.int .i64 0,.int .i64 0,.slice none 0 0] 65))
 obtain ⟨W0,hW0⟩:=zc (((w.alloc (.cells #[.int .i64 (n:Int),.int .i64 (n:Int),.slice A m cp] 65)).alloc (.cells #[.int .i64 0,.int .i64 0,.slice none 0 0] 65)));simp only [World.size_alloc] at A1;have hWg:=za (show W0.heap.size=w.heap.size+2 by rw [←hW0];simp);rw [hW0] at A0 A1 B0 ⊢;clear hW0;obtain ⟨g,hg⟩:=zc (w.heap.size);rw [hg] at A0 A1 B0 hWg
 try simp only [hg]
 refine (R.out W0).mono ?_;rintro e w1 ⟨rfl,hb1⟩;have B1:=za (zq B0.out (by rw [hWg.out];omega) hb1);have A0':=za (A0.out.below hb1);have A1':=za (A1.out.below hb1);have hs1:=za (show g+2≤w1.heap.size by have:=hb1.size;rw [hWg.out] at this;exact this);clear hb1;obtain ⟨p0,p1,p2⟩:=A0'.out.three;obtain ⟨k0,k1,k2⟩:=(A0'.out.alloc (.cells #[.int .i64 0,.int .i64 0,.int .i64 0,.bool false] 71)).three
 go_wp2_with fail;have C0:=za (At.new w1 71 #[.int .i64 0,.int .i64 0,.int .i64 0,.bool false]);have D0:=za (zg (Below.refl w1.heap.size w1) (.cells #[.int .i64 0,.int .i64 0,.int .i64 0,.bool false] 71));obtain ⟨V0,hV0⟩:=zc ((w1.alloc (.cells #[.int .i64 0,.int .i64 0,.int .i64 0,.bool false] 71)));have hV:=za (show V0.heap.size=w1.heap.size+1 by rw [←hV0];simp);rw [hV0] at C0 D0 ⊢
 clear hV0;obtain ⟨h,hh⟩:=zc (w1.heap.size);rw [hh] at C0 D0 hV
 try simp only [hh]
 have F0:=za (A0'.out.below (by rw [hh];exact D0.out));have F1:=za (A1'.out.below (by rw [hh];exact D0.out));have hgh:g+2≤h:=by have:=hs1.out;rw [hh] at this;exact this
 have B2:=za (zq B1.out (by omega) (by rw [hh];exact D0.out));have hBw:Below w.heap.size w V0:=by rw [hg];exact B2.out
 refine (M.out h g V0 (HL.out.below hBw) C0.out F0.out).mono ?_;rintro e w2 ⟨Q,a,b,rfl,hq,hb2,hfr⟩;unfold zE;have hsz:=hV.out;have B3:=za (zq B2.out (by omega) hb2);have G1:=za (F1.out.below hb2);have HQ:=za hq;clear hq hb2 p0 p1 p2 k0 k1 k2;obtain ⟨r0,r1,r2⟩:=G1.out.three;have z0:=G1.out.frozen 0;have z1:=G1.out.frozen 1;have z2:=G1.out.frozen 2;go_wp2_with fail;have NR:=za (HQ.out.set3 (w:=w) G1.out (qQ G1.out) (.int .i64 (n:Int)) (.int .i64 (n:Int)) (.slice Q a b))
 obtain ⟨d0,d1,d2⟩:=(G1.out.set3 (.int .i64 (n:Int)) (.int .i64 (n:Int)) (.slice Q a b)).three;refine bodyPost_ret (v:=.tuple #[.agg #[.int .i64 (n:Int),.int .i64 (n:Int),.slice Q a b],.bool true]) (by simp [results,Tryz.results149,go_sem,d0,d1,d2]) rfl ⟨Q,a,b,rfl,NR.out,?_,fun b o e=>Nat.le_trans (show w.heap.size≤V0.heap.size by omega) (hfr b o e)⟩;rw [hg];exact jd B3.out (by omega) _ _ _
end
section
attribute [local go_sem] Oper.semAt_some
def zgU (n:Nat) (l:List Num):List Num:=vK n n n l (j5 n n l)
def yj (n:Nat) (l:List Num):List Num:=zjb n (zgU n l)
theorem zt.sqMul {n:Nat} {l:List Num} (h:zt n n l):zt n n (zgU n l):=h.mul h.turn
theorem zt.square {n:Nat} {l:List Num} (h:zt n n l):zt n n (yj n l):=h.sqMul.mir
theorem Jz (n:Nat) (A:Option Addr) (m cp:Nat) (l:List Num) (hs:zt n n l) (w:World) (hl:zk w A m cp l):Calls Tryz.prog 89 #[zE n n A m cp] w (qM n n (yj n l) w):=by
 have hu:=Tryz.underlying65;have hu1:=Tryz.underlying71;have R:=za (fun W=>zbH n A m cp l hs hl.1 W);have HL:=za hl;have TN:=za (fun (W:World) (h:zk W A m cp l)=>ze8 n n A m cp l hs W h);have MU:=za (fun (Q:Option Addr) (a b:Nat) (W:World) (h:zk W A m cp l) (h2:zk W Q a b (j5 n n l))=>zkh n n n A m cp l Q a b (j5 n n l) hs hs.turn W h h2);have MI:=za (fun (Q:Option Addr) (a b:Nat) (W:World) (h:zk W Q a b (zgU n l))=>zaS n Q a b (zgU n l) hs.sqMul W h)
 clear hl;unfold zE at R TN MU MI;unfold zE;go_enter Tryz.func89,Tryz.ntmps89;go_wp2_with fail;have A0:=za ((At.new w 65 #[.int .i64 (n:Int),.int .i64 (n:Int),.slice A m cp]).alloc (.cells #[.int .i64 0,.int .i64 0,.slice none 0 0] 65));have A1:=za (At.new (w.alloc (.cells #[.int .i64 (n:Int),.int .i64 (n:Int),.slice A m cp] 65)) 65 #[.int .i64 0,.int .i64 0,.slice none 0 0]);have B0:=za (zg (zg (Below.refl w.heap.size w) (.cells #[.int .i64 (n:Int),.int .i64 (n:Int),.slice A m cp] 65)) (.cells #[.int .i64 0,.int .i64 0,.slice none 0 0] 65))
 obtain ⟨W0,hW0⟩:=zc (((w.alloc (.cells #[.int .i64 (n:Int),.int .i64 (n:Int),.slice A m cp] 65)).alloc (.cells #[.int .i64 0,.int .i64 0,.slice none 0 0] 65)));simp only [World.size_alloc] at A1;have hWg:=za (show W0.heap.size=w.heap.size+2 by rw [←hW0];simp);rw [hW0] at A0 A1 B0 ⊢;clear hW0;obtain ⟨g,hg⟩:=zc (w.heap.size);rw [hg] at A0 A1 B0 hWg
 try simp only [hg]
 refine (R.out W0).mono ?_;rintro e w1 ⟨rfl,hb1⟩;have B1:=za (zq B0.out (by rw [hWg.out];omega) hb1);have A0':=za (A0.out.below hb1);have A1':=za (A1.out.below hb1);have hs1:=za (show g+2≤w1.heap.size by have:=hb1.size;rw [hWg.out] at this;exact this);clear hb1 A0 A1 B0;have hsz:=hs1.out;obtain ⟨p0,p1,p2⟩:=A0'.out.three;have N1:=za (HL.out.below (by rw [hg];exact B1.out))
 go_wp2_with fail;refine zG [] (.rd (i:=0) rfl (.rd (i:=1) rfl (.tl (i:=2) rfl (.tl (i:=3) rfl (.rd (i:=4) rfl (.rd (i:=5) rfl (.rd (i:=6) rfl (.fl (i:=7) (st:=none) rfl rfl Yr (.tl (i:=8) rfl (.tl (i:=9) rfl .nil)))))))))) (by kernel_rfl) (by kernel_rfl) (fun c a d v w h=>by cases d<;>exact h) (fun c a d v w h=>by cases d<;>exact h) (by simp) ?_;have kp0:=fun x=>But.cell (G:=[]) p0 (by simp) x
 have kp1:=fun x=>But.cell (G:=[]) p1 (by simp) x;have kp2:=fun x=>But.cell (G:=[]) p2 (by simp) x;iterate 2 (refine zf ?_;go_big_quiet_step (fail);refine wpQuiet_nil ?_)
 clear kp0 kp1 kp2;refine zm rfl (fun w2 hb2 K hK=>?_);replace hb2:=qi hb2;go_simp;refine (TN.out w2 (N1.out.below hb2)).mono ?_;rintro e w3 ⟨Q3,a3,c3,rfl,hq3,hb3⟩;unfold zE;refine hK _ _ ((zC.refl _ _).call hb3) ?_;clear hK K;refine zm rfl (fun w4 hb4 K hK=>?_);go_simp;refine (MU.out Q3 a3 c3 w4 (((N1.out.below hb2).below hb3).below hb4) (hq3.below hb4)).mono ?_;rintro e w5 ⟨Q5,a5,c5,rfl,hq5,hb5⟩
 unfold zE;refine hK _ _ ((zC.refl _ _).call hb5) ?_;clear hK K;iterate 3 (refine zf ?_;go_big_quiet_step (fail);refine wpQuiet_nil ?_)
 refine zT (fun w6 b hb6 hat6 hb0 hbL=>?_);refine zm rfl (fun w7 hb7 K hK=>?_);have HA:=za (hat6.below hb7);have HQ:=za ((hq5.below hb6).below hb7);have BW:=za (zq (zq (zq (zq (zq (zq B1.out (by omega) hb2) (by have:=hb2.size;omega) hb3) (by have:=hb2.size;have:=hb3.size;omega) hb4) (by have:=hb2.size;have:=hb3.size;have:=hb4.size;omega) hb5) (by have:=hb2.size;have:=hb3.size;have:=hb4.size;have:=hb5.size;omega) hb6) (by have:=hb2.size;have:=hb3.size;have:=hb4.size;have:=hb5.size;have:=hb6.size;omega) hb7)
 have A1w:=za ((((((A1'.out.below hb2).below hb3).below hb4).below hb5).below hb6).below hb7);clear hb2 hb3 hb4 hb5 hb6 hb7 hq3 hq5 hat6 N1;obtain ⟨r0,r1,r2⟩:=HA.out.three;have z0:=HA.out.frozen 0;have z1:=HA.out.frozen 1;have z2:=HA.out.frozen 2;go_simp;refine hK _ _ ((((zC.refl _ _).set (.inl (by simp)) _ _).set (.inl (by simp)) _ _).set (.inl (by simp)) _ _) ?_;clear hK K r0 r1 r2 z0 z1 z2
 have HA2:=za (HA.out.set3 (.int .i64 (n:Int)) (.int .i64 (n:Int)) (.slice Q5 a5 c5));have NR:=za (HQ.out.set3 (w:=w) HA.out (qQ HA.out) (.int .i64 (n:Int)) (.int .i64 (n:Int)) (.slice Q5 a5 c5));have BR:=za (jd BW.out (show g≤b by omega) (.int .i64 (n:Int)) (.int .i64 (n:Int)) (.slice Q5 a5 c5));have A1x:=za (A1w.out.far3 (q:=b) (by omega) (.int .i64 (n:Int)) (.int .i64 (n:Int)) (.slice Q5 a5 c5))
 obtain ⟨w8,hw8⟩:=zc ((((w7.setCell ⟨b,0,none⟩ (.int .i64 (n:Int))).setCell ⟨b,1,none⟩ (.int .i64 (n:Int))).setCell ⟨b,2,none⟩ (.slice Q5 a5 c5)));rw [hw8] at HA2 NR BR A1x ⊢;have hs8:=za (show g+2≤w8.heap.size by have:=HA2.out.lt;omega);clear HA HQ BW A1w A1' hw8;refine zJ rfl (fun w9 hb9 K hK=>?_);go_simp;refine hK _ _ ?_;clear hK K;have HA9:=za (HA2.out.below hb9);have NR9:=za (NR.out.below hb9)
 have BR9:=za (zq BR.out (by have:=hs8.out;omega) hb9);have A19:=za (A1x.out.below hb9);have hs9:=za (Nat.le_trans hs8.out hb9.size);clear HA2 NR BR A1x hs8 hb9;obtain ⟨r0,r1,r2⟩:=HA9.out.three;go_wp2_with fail;refine (MI.out Q5 a5 c5 w9 NR9.out).mono ?_;rintro e w10 ⟨Q,a,c,rfl,hq,hb10,hfr⟩;unfold zE;have hs9':=hs9.out;have B3:=za (zq BR9.out (by omega) hb10);have G1:=za (A19.out.below hb10)
 have HQ:=za hq;clear hq hb10 r0 r1 r2;obtain ⟨r0,r1,r2⟩:=G1.out.three;have z0:=G1.out.frozen 0;have z1:=G1.out.frozen 1;have z2:=G1.out.frozen 2;go_wp2_with fail;have NR:=za (HQ.out.set3 (w:=w) G1.out (qQ G1.out) (.int .i64 (n:Int)) (.int .i64 (n:Int)) (.slice Q a c));obtain ⟨d0,d1,d2⟩:=(G1.out.set3 (.int .i64 (n:Int)) (.int .i64 (n:Int)) (.slice Q a c)).three;refine bodyPost_ret (v:=.tuple #[.agg #[.int .i64 (n:Int),.int .i64 (n:Int),.slice Q a c],.bool true]) (by simp [results,Tryz.results89,go_sem,d0,d1,d2]) rfl ⟨Q,a,c,rfl,NR.out,?_,fun b o e=>Nat.le_trans (show w.heap.size≤w9.heap.size by omega) (hfr b o e)⟩
 rw [hg];exact jd B3.out (by omega) _ _ _
end
theorem XaH {P:Prop} (h:P:=by
 have hWg:=za (show W0.heap.size=w.heap.size+1 by rw [←hW0];simp);rw [hW0] at A0 B0 ⊢;clear hW0;obtain ⟨g,hg⟩:=zc (w.heap.size);rw [hg] at A0 B0 hWg
 try simp only [hg]
 refine (R.out W0).mono ?_;rintro e w1 ⟨rfl,hb1⟩;obtain ⟨m0,m1,m2,m3⟩:=(A0.out.below hb1).four;have B1:=za (zq B0.out (by rw [hWg.out];omega) hb1);clear hb1;go_wp2_with fail;go_ret;refine ⟨rfl,?_⟩;rw [hg];exact B1.out) : P := h
def yW (A:Option Addr) (a c:Nat) (r k:Int) (A':Option Addr) (m cp:Nat):Value:=.agg #[.slice A a c,r,k,.slice A' m cp]
theorem vF (n:Nat) (A:Option Addr) (c:Nat) (A':Option Addr) (m cp:Nat) (l:List Num) (hn:n≤4) (hs:zt n n l) (hm:l.length=m) (w:World):Calls Tryz.prog 87 #[yW A n c n n A' m cp] w fun e w'=>e=.returned (.bool true)∧Below w.heap.size w w':=by
 have hu:=Tryz.underlying67;have hu1:=Tryz.underlying65;have h1:=hs.r1;have R:=za (show ∀W,Calls Tryz.prog 119 #[zE n n A' m cp] W fun e w'=>e=.returned (.bool true)∧Below W.heap.size W w' from fun W=>by have:=qI n n A' m cp W;rw [hs.right hm] at this;exact this);have hi1:(1:Int)≤(n:Int):=by omega
 have hi2:(n:Int)≤4:=by omega
 unfold zE at R;unfold yW;go_enter Tryz.func87,Tryz.ntmps87;go_wp2_with fail;have A0:=za (At.new w 67 #[.slice A n c,.int .i64 (n:Int),.int .i64 (n:Int),.slice A' m cp]);have B0:=za (zg (Below.refl w.heap.size w) (.cells #[.slice A n c,.int .i64 (n:Int),.int .i64 (n:Int),.slice A' m cp] 67));obtain ⟨W0,hW0⟩:=zc ((w.alloc (.cells #[.slice A n c,.int .i64 (n:Int),.int .i64 (n:Int),.slice A' m cp] 67)))
 exact XaH
theorem ZF (n:Nat) (A:Option Addr) (c:Nat) (A':Option Addr) (m cp:Nat) (l:List Num) (hn:n≤4) (hs:zt n n l) (hm:l.length=m) (w:World):Calls Tryz.prog 88 #[yW A n c n n A' m cp] w fun e w'=>e=.returned (.bool true)∧Below w.heap.size w w':=by
 have hu:=Tryz.underlying69;have hu1:=Tryz.underlying65;have h1:=hs.r1;have R:=za (show ∀W,Calls Tryz.prog 119 #[zE n n A' m cp] W fun e w'=>e=.returned (.bool true)∧Below W.heap.size W w' from fun W=>by have:=qI n n A' m cp W;rw [hs.right hm] at this;exact this);have hi1:(1:Int)≤(n:Int):=by omega
 have hi2:(n:Int)≤4:=by omega
 unfold zE at R;unfold yW;go_enter Tryz.func88,Tryz.ntmps88;go_wp2_with fail;have A0:=za (At.new w 69 #[.slice A n c,.int .i64 (n:Int),.int .i64 (n:Int),.slice A' m cp]);have B0:=za (zg (Below.refl w.heap.size w) (.cells #[.slice A n c,.int .i64 (n:Int),.int .i64 (n:Int),.slice A' m cp] 69));obtain ⟨W0,hW0⟩:=zc ((w.alloc (.cells #[.slice A n c,.int .i64 (n:Int),.int .i64 (n:Int),.slice A' m cp] 69)))
 exact XaH
section
attribute [local go_sem] Oper.semAt_some
def zhs (w:World) (A:Option Addr):Prop:=∀b o,A=some ⟨b,o,none⟩→w.heap.size≤b
def V4 (n:Nat) (xs l:List Num) (w:World) (e:Ending) (w':World):Prop:=∃A a c A' m cp,e=.returned (.tuple #[yW A a c n n A' m cp,.bool true])∧zk w' A a c xs∧zk w' A' m cp l∧Below w.heap.size w w'∧zhs w A∧zhs w A'
theorem zhl (w:World):(Instr.alloc 67 true (.tuple #[])).run Tryz.prog w=.ok (.pointer (some ⟨w.heap.size,0,none⟩)) (w.alloc (.cells #[.slice none 0 0,.int .i64 0,.int .i64 0,.slice none 0 0] 67)):=by
 have hu:=Tryz.underlying67;simp [Instr.alloc,go_sem,hu]
theorem zhk (w:World):(Instr.alloc 69 true (.tuple #[])).run Tryz.prog w=.ok (.pointer (some ⟨w.heap.size,0,none⟩)) (w.alloc (.cells #[.slice none 0 0,.int .i64 0,.int .i64 0,.slice none 0 0] 69)):=by
 have hu:=Tryz.underlying69;simp [Instr.alloc,go_sem,hu]
theorem zk.set4 {W:World} {A:Option Addr} {n c g:Nat} {t:TypeId} {cs:Array Value} {xs:List Num} (h:zk W A n c xs) (hg:At W g t cs) (hc:∀i v,W.cell? ⟨g,i,none⟩=some v→∀x:Num,v≠.bool x.bad) (x y z u:Value):zk ((((W.setCell ⟨g,0,none⟩ x).setCell ⟨g,1,none⟩ y).setCell ⟨g,2,none⟩ z).setCell ⟨g,3,none⟩ u) A n c xs :=
 ⟨h.1,h.2.1,fun hn=>by
  obtain ⟨b,o,e,hk⟩:=h.2.2 hn;refine ⟨b,o,e,fun k x hx=>?_⟩;have hne:b≠g:=fun e=>by subst e;exact hc _ _ (hk k x hx).2.2.2 x rfl
  exact ⟨Yf (hk k x hx).1 hne,Yf (hk k x hx).2.1 hne,Yf (hk k x hx).2.2.1 hne,Yf (hk k x hx).2.2.2 hne⟩⟩
theorem Za {W:World} {g:Nat} {t:TypeId} {a b:Int} {v0 v3:Option Addr} {n c n0 c0:Nat} (h:At W g t #[.slice v0 n0 c0,a,b,.slice v3 n c]):∀i v,W.cell? ⟨g,i,none⟩=some v→∀x:Num,v≠.bool x.bad:=by
 intro i v hv x e;subst e;rw [h.cell] at hv
 match i,hv with
 | 0,hv=>simp at hv
 | 1,hv=>simp at hv
 | 2,hv=>simp at hv
 | 3,hv=>simp at hv
 | i+4,hv=>simp at hv
theorem zgk (n:Nat) (A:Option Addr) (c:Nat) (xs:List Num) (A':Option Addr) (m cp:Nat) (l:List Num) (hn:n≤4) (hs:zt n n l) (w:World) (hx:zk w A n c xs) (hl:zk w A' m cp l):Calls Tryz.prog 133 #[.slice A n c,zE n n A' m cp] w (V4 n xs (yj n l) w):=by
 have hu:=Tryz.underlying67;have hu1:=Tryz.underlying65;have SQ:=za (fun (W:World) (h:zk W A' m cp l)=>Jz n A' m cp l hs W h);have CL:=za (fun (W:World) (h:zk W A n c xs)=>jU A n c xs (by omega) W h);have RI:=za (fun (Q:Option Addr) (d:Nat) (Q':Option Addr) (a b:Nat) (W:World) (h:zk W Q' a b (yj n l))=>vF n Q d Q' a b _ hn hs.square h.1 W);have HX:=za hx;have HL:=za hl
 clear hx hl;unfold zE at SQ;unfold yW at RI;unfold zE;go_enter Tryz.func133,Tryz.ntmps133;go_wp2_with fail;obtain ⟨W0,hW0⟩:=zc (((w.alloc (.cells #[.int .i64 (n:Int),.int .i64 (n:Int),.slice A' m cp] 65)).alloc (.cells #[.slice none 0 0,.int .i64 0,.int .i64 0,.slice none 0 0] 67)));obtain ⟨bx,b0,hsz⟩:=y7 hW0;rw [hW0];clear hW0;have F:=za (((Off.start b0 hsz).argN b0 (HX.out)).argN b0 (HL.out))
 have BX:=za bx;clear bx b0 hsz;obtain ⟨g,hg⟩:=zc (w.heap.size);rw [hg] at F BX
 try simp only [hg]
 refine (SQ.out W0 F.out.out.2).mono ?_;rintro e w1 ⟨Q1,a1,c1,rfl,hq,hb,hfr⟩;unfold zE;have fN1:∀b o,Q1=some ⟨b,o,none⟩→g+2≤b:=fun b o e=>Nat.le_trans F.out.hiw (hfr b o e);replace F:=za (F.out.gotN hb hq hfr);replace BX:=ze BX hb;clear hb hq hfr;go_wp2_with fail;obtain ⟨Xh,hXh⟩:=zc (w1.alloc (.cells #[.int .i64 (n:Int),.int .i64 (n:Int),.slice Q1 a1 c1] 65));obtain ⟨bx,b0,hsz⟩:=z6 hXh
 rw [hXh];have lh:=F.out.hiw;replace F:=za (F.out.gotA b0 bx );replace BX:=ze BX b0;obtain ⟨h,hh⟩:=zc (w1.heap.size);rw [hh] at F lh
 try simp only [hh]
 clear bx b0 hsz hh hXh;have p0:=(F.out.out.2).cell 0;have p1:=(F.out.out.2).cell 1;have p2:=(F.out.out.2).cell 2;replace F:=za F.out.now;have hstart:=F.out.hiw;refine zG [] (.rd (i:=0) rfl (.rd (i:=2) rfl (.tl (i:=1) rfl (.rd (i:=3) rfl (.fl (i:=4) (st:=none) rfl rfl zhl (.tl (i:=5) rfl .nil)))))) (by kernel_rfl) (by kernel_rfl) (fun c a d v w h=>by cases d<;>exact h) (fun c a d v w h=>by cases d<;>exact h) (by simp) ?_
 have kp0:=fun x=>But.cell (G:=[]) p0 (by simp) x;have kp1:=fun x=>But.cell (G:=[]) p1 (by simp) x;have kp2:=fun x=>But.cell (G:=[]) p2 (by simp) x;iterate 2 (refine zf ?_;go_big_quiet_step (fail);refine wpQuiet_nil ?_)
 clear kp0 kp1 kp2;refine zm rfl (fun w2 hb K hK=>?_);replace hb:=qi hb;go_simp;replace F:=zd F hb;replace BX:=ze BX hb;clear hb;refine (CL.out _ F.out.out.1.1.1.2).mono ?_;rintro e w3 ⟨Q3,a3,c3,rfl,hq,hb⟩;obtain rfl:a3=n:=by rw [zL hq];exact HX.out.1
 have hfr:=zY hq;refine hK _ _ ((zC.refl _ _).call hb) ?_;clear hK K;have fN3:∀b o,Q3=some ⟨b,o,none⟩→g+2≤b:=fun b o e=>Nat.le_trans F.out.hiw (hfr b o e);replace F:=zd F hb;replace BX:=ze BX hb;have N3:=za hq.nums;clear hb hq hfr;refine zf ?_;go_big_quiet_step (fail);refine wpQuiet_nil ?_;refine zT (fun w4 b hb hat lb _=>?_);replace F:=zd F hb;replace BX:=ze BX hb;replace N3:=za (N3.out.below hb)
 have G:=za hat;clear hat hb;refine zJ rfl (fun w5 hb K hK=>?_);replace F:=zd F hb;replace BX:=ze BX hb;replace N3:=za (N3.out.below hb);replace G:=za (G.out.below hb);clear hb;have rr0:=(G.out).cell 0;have zrr0:=(G.out).frozen 0;have rr1:=(G.out).cell 1;have zrr1:=(G.out).frozen 1;have rr2:=(G.out).cell 2;have zrr2:=(G.out).frozen 2;have rr3:=(G.out).cell 3;have zrr3:=(G.out).frozen 3
 go_simp;refine hK _ _ ?_;clear hK K rr0 zrr0 rr1 zrr1 rr2 zrr2 rr3 zrr3;replace F:=za (F.out.set4 (.inr (by omega)) (.slice Q3 a3 c3) (.int .i64 (a3:Int)) (.int .i64 (a3:Int)) (.slice Q1 a1 c1));replace BX:=za (BX.out.far4 (show g+2≤b by omega) (.slice Q3 a3 c3) (.int .i64 (a3:Int)) (.int .i64 (a3:Int)) (.slice Q1 a1 c1));replace N3:=za (N3.out.set4 G.out (Za G.out) (.slice Q3 a3 c3) (.int .i64 (a3:Int)) (.int .i64 (a3:Int)) (.slice Q1 a1 c1))
 replace G:=za (G.out.set4 (.slice Q3 a3 c3) (.int .i64 (a3:Int)) (.int .i64 (a3:Int)) (.slice Q1 a1 c1));obtain ⟨w6,hw6⟩:=zc (((((w5.setCell ⟨b,0,none⟩ (.slice Q3 a3 c3)).setCell ⟨b,1,none⟩ (.int .i64 (a3:Int))).setCell ⟨b,2,none⟩ (.int .i64 (a3:Int))).setCell ⟨b,3,none⟩ (.slice Q1 a1 c1)));rw [hw6] at F BX N3 G ⊢;clear hw6;have r0:=(G.out).cell 0;have r1:=(G.out).cell 1;have r2:=(G.out).cell 2
 have r3:=(G.out).cell 3;replace F:=za (F.out.plus (G.out.off (.inr (by omega))));clear G;replace F:=za (F.out.plus (N3.out.off (fun b o e _=>.inr (fN3 b o e))));clear N3;go_wp2_with fail;refine (RI.out Q3 c3 Q1 a1 c1 _ F.out.out.1.1.1.2).mono ?_;rintro e w7 ⟨rfl,hb⟩;replace F:=zd F hb;replace BX:=ze BX hb;clear hb r0 r1 r2 r3;have r0:=(F.out.out.1.2).cell 0;have r1:=(F.out.out.1.2).cell 1
 have r2:=(F.out.out.1.2).cell 2;have r3:=(F.out.out.1.2).cell 3;have q0:=(BX.out.2.1).cell 0;have zq0:=(BX.out.2.1).frozen 0;have q1:=(BX.out.2.1).cell 1;have zq1:=(BX.out.2.1).frozen 1;have q2:=(BX.out.2.1).cell 2;have zq2:=(BX.out.2.1).frozen 2;have q3:=(BX.out.2.1).cell 3;have zq3:=(BX.out.2.1).frozen 3;go_wp2_with fail;have F9:=F.out.set4 (g:=g+1) (.inl (by omega)) (.slice Q3 a3 c3) (.int .i64 (a3:Int)) (.int .i64 (a3:Int)) (.slice Q1 a1 c1)
 obtain ⟨d0,d1,d2,d3⟩:=((BX.out.2.1).set4 (.slice Q3 a3 c3) (.int .i64 (a3:Int)) (.int .i64 (a3:Int)) (.slice Q1 a1 c1)).four;exact bodyPost_ret (v:=.tuple #[.agg #[.slice Q3 a3 c3,.int .i64 (a3:Int),.int .i64 (a3:Int),.slice Q1 a1 c1],.bool true]) (by simp [results,Tryz.results133,go_sem,d0,d1,d2,d3]) rfl ⟨Q3,a3,c3,Q1,a1,c1,rfl,F9.out.2,F9.out.1.1.1.2,by rw [hg];exact F9.out.1.1.1.1.1.1,fun b o e=>by rw [hg];have:=fN3 b o e;omega,fun b o e=>by rw [hg];have:=fN1 b o e;omega⟩
theorem ziZ (n:Nat) (A:Option Addr) (c:Nat) (xs:List Num) (A':Option Addr) (m cp:Nat) (l:List Num) (hn:n≤4) (hs:zt n n l) (w:World) (hx:zk w A n c xs) (hl:zk w A' m cp l):Calls Tryz.prog 131 #[.slice A n c,zE n n A' m cp] w (V4 n xs (Qq n l) w):=by
 have hu:=Tryz.underlying69;have hu1:=Tryz.underlying65;have SQ:=za (fun (W:World) (h:zk W A' m cp l)=>zbI n A' m cp l hs W h);have CL:=za (fun (W:World) (h:zk W A n c xs)=>jU A n c xs (by omega) W h);have RI:=za (fun (Q:Option Addr) (d:Nat) (Q':Option Addr) (a b:Nat) (W:World) (h:zk W Q' a b (Qq n l))=>ZF n Q d Q' a b _ hn hs.clear h.1 W);have HX:=za hx;have HL:=za hl
 clear hx hl;unfold zE at SQ;unfold yW at RI;unfold zE;go_enter Tryz.func131,Tryz.ntmps131;go_wp2_with fail;obtain ⟨W0,hW0⟩:=zc (((w.alloc (.cells #[.int .i64 (n:Int),.int .i64 (n:Int),.slice A' m cp] 65)).alloc (.cells #[.slice none 0 0,.int .i64 0,.int .i64 0,.slice none 0 0] 69)));obtain ⟨bx,b0,hsz⟩:=y7 hW0;rw [hW0];clear hW0;have F:=za (((Off.start b0 hsz).argN b0 (HX.out)).argN b0 (HL.out))
 have BX:=za bx;clear bx b0 hsz;obtain ⟨g,hg⟩:=zc (w.heap.size);rw [hg] at F BX
 try simp only [hg]
 refine (SQ.out W0 F.out.out.2).mono ?_;rintro e w1 ⟨Q1,a1,c1,rfl,hq,hb,hfr⟩;unfold zE;have fN1:∀b o,Q1=some ⟨b,o,none⟩→g+2≤b:=fun b o e=>Nat.le_trans F.out.hiw (hfr b o e);replace F:=za (F.out.gotN hb hq hfr);replace BX:=ze BX hb;clear hb hq hfr;go_wp2_with fail;obtain ⟨Xh,hXh⟩:=zc (w1.alloc (.cells #[.int .i64 (n:Int),.int .i64 (n:Int),.slice Q1 a1 c1] 65));obtain ⟨bx,b0,hsz⟩:=z6 hXh
 rw [hXh];have lh:=F.out.hiw;replace F:=za (F.out.gotA b0 bx );replace BX:=ze BX b0;obtain ⟨h,hh⟩:=zc (w1.heap.size);rw [hh] at F lh
 try simp only [hh]
 clear bx b0 hsz hh hXh;have p0:=(F.out.out.2).cell 0;have p1:=(F.out.out.2).cell 1;have p2:=(F.out.out.2).cell 2;replace F:=za F.out.now;have hstart:=F.out.hiw;refine zG [] (.rd (i:=0) rfl (.rd (i:=2) rfl (.tl (i:=1) rfl (.rd (i:=3) rfl (.fl (i:=4) (st:=none) rfl rfl zhk (.tl (i:=5) rfl .nil)))))) (by kernel_rfl) (by kernel_rfl) (fun c a d v w h=>by cases d<;>exact h) (fun c a d v w h=>by cases d<;>exact h) (by simp) ?_
 have kp0:=fun x=>But.cell (G:=[]) p0 (by simp) x;have kp1:=fun x=>But.cell (G:=[]) p1 (by simp) x;have kp2:=fun x=>But.cell (G:=[]) p2 (by simp) x;iterate 2 (refine zf ?_;go_big_quiet_step (fail);refine wpQuiet_nil ?_)
 clear kp0 kp1 kp2;refine zm rfl (fun w2 hb K hK=>?_);replace hb:=qi hb;go_simp;replace F:=zd F hb;replace BX:=ze BX hb;clear hb;refine (CL.out _ F.out.out.1.1.1.2).mono ?_;rintro e w3 ⟨Q3,a3,c3,rfl,hq,hb⟩;obtain rfl:a3=n:=by rw [zL hq];exact HX.out.1
 have hfr:=zY hq;refine hK _ _ ((zC.refl _ _).call hb) ?_;clear hK K;have fN3:∀b o,Q3=some ⟨b,o,none⟩→g+2≤b:=fun b o e=>Nat.le_trans F.out.hiw (hfr b o e);replace F:=zd F hb;replace BX:=ze BX hb;have N3:=za hq.nums;clear hb hq hfr;refine zf ?_;go_big_quiet_step (fail);refine wpQuiet_nil ?_;refine zT (fun w4 b hb hat lb _=>?_);replace F:=zd F hb;replace BX:=ze BX hb;replace N3:=za (N3.out.below hb)
 have G:=za hat;clear hat hb;refine zJ rfl (fun w5 hb K hK=>?_);replace F:=zd F hb;replace BX:=ze BX hb;replace N3:=za (N3.out.below hb);replace G:=za (G.out.below hb);clear hb;have rr0:=(G.out).cell 0;have zrr0:=(G.out).frozen 0;have rr1:=(G.out).cell 1;have zrr1:=(G.out).frozen 1;have rr2:=(G.out).cell 2;have zrr2:=(G.out).frozen 2;have rr3:=(G.out).cell 3;have zrr3:=(G.out).frozen 3
 go_simp;refine hK _ _ ?_;clear hK K rr0 zrr0 rr1 zrr1 rr2 zrr2 rr3 zrr3;replace F:=za (F.out.set4 (.inr (by omega)) (.slice Q3 a3 c3) (.int .i64 (a3:Int)) (.int .i64 (a3:Int)) (.slice Q1 a1 c1));replace BX:=za (BX.out.far4 (show g+2≤b by omega) (.slice Q3 a3 c3) (.int .i64 (a3:Int)) (.int .i64 (a3:Int)) (.slice Q1 a1 c1));replace N3:=za (N3.out.set4 G.out (Za G.out) (.slice Q3 a3 c3) (.int .i64 (a3:Int)) (.int .i64 (a3:Int)) (.slice Q1 a1 c1))
 replace G:=za (G.out.set4 (.slice Q3 a3 c3) (.int .i64 (a3:Int)) (.int .i64 (a3:Int)) (.slice Q1 a1 c1));obtain ⟨w6,hw6⟩:=zc (((((w5.setCell ⟨b,0,none⟩ (.slice Q3 a3 c3)).setCell ⟨b,1,none⟩ (.int .i64 (a3:Int))).setCell ⟨b,2,none⟩ (.int .i64 (a3:Int))).setCell ⟨b,3,none⟩ (.slice Q1 a1 c1)));rw [hw6] at F BX N3 G ⊢;clear hw6;have r0:=(G.out).cell 0;have r1:=(G.out).cell 1;have r2:=(G.out).cell 2
 have r3:=(G.out).cell 3;replace F:=za (F.out.plus (G.out.off (.inr (by omega))));clear G;replace F:=za (F.out.plus (N3.out.off (fun b o e _=>.inr (fN3 b o e))));clear N3;go_wp2_with fail;refine (RI.out Q3 c3 Q1 a1 c1 _ F.out.out.1.1.1.2).mono ?_;rintro e w7 ⟨rfl,hb⟩;replace F:=zd F hb;replace BX:=ze BX hb;clear hb r0 r1 r2 r3;have r0:=(F.out.out.1.2).cell 0;have r1:=(F.out.out.1.2).cell 1
 have r2:=(F.out.out.1.2).cell 2;have r3:=(F.out.out.1.2).cell 3;have q0:=(BX.out.2.1).cell 0;have zq0:=(BX.out.2.1).frozen 0;have q1:=(BX.out.2.1).cell 1;have zq1:=(BX.out.2.1).frozen 1;have q2:=(BX.out.2.1).cell 2;have zq2:=(BX.out.2.1).frozen 2;have q3:=(BX.out.2.1).cell 3;have zq3:=(BX.out.2.1).frozen 3;go_wp2_with fail;have F9:=F.out.set4 (g:=g+1) (.inl (by omega)) (.slice Q3 a3 c3) (.int .i64 (a3:Int)) (.int .i64 (a3:Int)) (.slice Q1 a1 c1)
 obtain ⟨d0,d1,d2,d3⟩:=((BX.out.2.1).set4 (.slice Q3 a3 c3) (.int .i64 (a3:Int)) (.int .i64 (a3:Int)) (.slice Q1 a1 c1)).four;exact bodyPost_ret (v:=.tuple #[.agg #[.slice Q3 a3 c3,.int .i64 (a3:Int),.int .i64 (a3:Int),.slice Q1 a1 c1],.bool true]) (by simp [results,Tryz.results131,go_sem,d0,d1,d2,d3]) rfl ⟨Q3,a3,c3,Q1,a1,c1,rfl,F9.out.2,F9.out.1.1.1.2,by rw [hg];exact F9.out.1.1.1.1.1.1,fun b o e=>by rw [hg];have:=fN3 b o e;omega,fun b o e=>by rw [hg];have:=fN1 b o e;omega⟩
end
end Go.Proofs.YtcoiklclbljjeaaGreatDoor.L
