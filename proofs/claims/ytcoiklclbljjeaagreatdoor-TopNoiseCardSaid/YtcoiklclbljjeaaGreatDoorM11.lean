/- Lemmas of the card's proof. -/
import Derived.Deep.RegionHeld3
import Derived.Test.YtcoiklclbljjeaaGreatDoorM05
import Derived.Test.YtcoiklclbljjeaaGreatDoorM08
import Derived.Test.YtcoiklclbljjeaaGreatDoorM09
set_option linter.unusedVariables false
set_option linter.unusedSimpArgs false
set_option maxRecDepth 100000
set_option maxHeartbeats 16000000
namespace Go.Proofs.YtcoiklclbljjeaaGreatDoor.L
open Go.RowKit
def Vw:Op3:=fun a b _=>Vb a b
def Vv:Op3:=fun a b _=>Y8 a b
def JH:Op3:=fun a _ m=>vG a m
theorem zjz:ziF 228 Vw:=by
 intro a b m w;show Calls Tryz.prog 228 #[a,b,m] w fun e w'=>e=.returned (.tuple #[.int .i64 (Vb a b).1,.bool (Vb a b).2])∧Below w.heap.size w w';have C:=zlb a b;generalize Vb a b=p at C ⊢;obtain ⟨n,is⟩:=p;have HC:=za C;clear C;go_enter Tryz.func228,Tryz.ntmps228;go_wp2_with (go_at_call 229;(with_reducible refine (HC.out _).mono ?_);rintro e w1 ⟨rfl,hb1⟩;have hB1:=za hb1;clear hb1)
 go_ret2
 exact ⟨rfl,hB1.out⟩
theorem zjy:ziF 237 Vv:=by
 intro a b m w;show Calls Tryz.prog 237 #[a,b,m] w fun e w'=>e=.returned (.tuple #[.int .i64 (Y8 a b).1,.bool (Y8 a b).2])∧Below w.heap.size w w';have C:=zk8 a b;generalize Y8 a b=p at C ⊢;obtain ⟨n,is⟩:=p;have HC:=za C;clear C;go_enter Tryz.func237,Tryz.ntmps237;go_wp2_with (go_at_call 238;(with_reducible refine (HC.out _).mono ?_);rintro e w1 ⟨rfl,hb1⟩;have hB1:=za hb1;clear hb1)
 go_ret2
 exact ⟨rfl,hB1.out⟩
theorem zh8:ziF 235 JH:=by
 intro a b m w;show Calls Tryz.prog 235 #[a,b,m] w fun e w'=>e=.returned (.tuple #[.int .i64 (vG a m).1,.bool (vG a m).2])∧Below w.heap.size w w';have C:=zko a m;generalize vG a m=p at C ⊢;obtain ⟨n,is⟩:=p;have HC:=za C;clear C;go_enter Tryz.func235,Tryz.ntmps235;go_wp2_with (go_at_call 236;(with_reducible refine (HC.out _).mono ?_);rintro e w1 ⟨rfl,hb1⟩;have hB1:=za hb1;clear hb1)
 go_ret2
 exact ⟨rfl,hB1.out⟩
theorem zjG:ziF 233 vQ:=fun x y m W=>zk9 x y m W
theorem zjH:ziF 231 jX:=fun x y m W=>zla x y m W
def Num.add (a b:Num):Num:=ZN Vw a b [(a.l,b.l),(a.h,b.h)]
def Num.sub (a b:Num):Num:=ZN Vv a b [(a.l,b.h),(a.h,b.l)]
def Num.root (a:Num):Num:=ZN JH a a [(a.l,a.l),(a.h,a.h)]
def zbj (a b:Num):List (Int×Int):=[(a.l,b.l),(a.l,b.h),(a.h,b.l),(a.h,b.h)]
def Num.mul (a b:Num):Num:=ZN vQ a b (zbj a b)
def Num.div (a b:Num):Num:=if (decide (b.l≤0)&&decide (0≤b.h))=true then zaG else ZN jX a b (zbj a b)
def Num.neg (a:Num):Num:=(jf 0).sub a
def Num.of (n:Int):Num:=if (fof n).2=true then jf (fof n).1 else zaG
def Num.sign (a:Num):Int:=if a.bad=true∨a.v=0 then 0 else if a.v<0 then -1 else 1
theorem zid (args:Array Value) (W:World):(callFunc 228 args).run Tryz.prog W=.ok (.enter 228 args) W:=enters_of Tryz.func228 (by kernel_rfl) rfl args W
theorem zh9 (args:Array Value) (W:World):(callFunc 237 args).run Tryz.prog W=.ok (.enter 237 args) W:=enters_of Tryz.func237 (by kernel_rfl) rfl args W
theorem zia (args:Array Value) (W:World):(callFunc 235 args).run Tryz.prog W=.ok (.enter 235 args) W:=enters_of Tryz.func235 (by kernel_rfl) rfl args W
theorem zib (args:Array Value) (W:World):(callFunc 233 args).run Tryz.prog W=.ok (.enter 233 args) W:=enters_of Tryz.func233 (by kernel_rfl) rfl args W
theorem zic (args:Array Value) (W:World):(callFunc 231 args).run Tryz.prog W=.ok (.enter 231 args) W:=enters_of Tryz.func231 (by kernel_rfl) rfl args W
theorem At.new' {w:World} {g:Nat} {t:TypeId} {cs:Array Value} (hg:w.heap.size=g):At (w.alloc (.cells cs t)) g t cs:=by subst hg;exact At.new _ _ _
theorem zf4 {w:World} {g:Nat} {a b c d:Int} (h:At w g 269 #[a,b,c,d]):Jr w g [(a,b),(c,d)]:=fun k p hp=>by
 match k,hp with
 | 0,hp=>simp at hp;subst hp;exact ⟨h.cell 0,h.cell 1⟩
 | 1,hp=>simp at hp;subst hp;exact ⟨h.cell 2,h.cell 3⟩
 | k+2,hp=>simp at hp
theorem zkY {w:World} {g:Nat} {a b c d a' b' c' d':Int} (h:At w g 269 #[a,b,c,d,a', b', c', d']):Jr w g [(a,b),(c,d),(a', b'),(c', d')]:=fun k p hp=>by
 match k,hp with
 | 0,hp=>simp at hp;subst hp;exact ⟨h.cell 0,h.cell 1⟩
 | 1,hp=>simp at hp;subst hp;exact ⟨h.cell 2,h.cell 3⟩
 | 2,hp=>simp at hp;subst hp;exact ⟨h.cell 4,h.cell 5⟩
 | 3,hp=>simp at hp;subst hp;exact ⟨h.cell 6,h.cell 7⟩
 | k+4,hp=>simp at hp
theorem Yl (a b:Num) (w:World):Calls Tryz.prog 220 #[a.val,b.val] w fun e w'=>e=.returned (a.add b).val∧Below w.heap.size w w':=by
 obtain ⟨av,al,ah,ab⟩:=a;obtain ⟨bv,bl,bh,bb⟩:=b;have hu:=Tryz.underlying71;have hu9:Tryz.prog.underlying 269=some (.array 2 3):=by kernel_rfl
 obtain ⟨r,hr⟩:=zc (Num.add ⟨av,al,ah,ab⟩ ⟨bv,bl,bh,bb⟩)
 have C:=za (show ∀(g:Nat) (W:World),Jr W g [(al,bl),(ah,bh)]→Calls Tryz.prog 230 #[.agg #[av,al,ah,ab],.agg #[bv,bl,bh,bb],.func (.func 228) #[] #[],.slice (some ⟨g,0,none⟩) 2 2] W fun e w'=>e=.returned r.val∧Below W.heap.size W w' from fun g W h=>by
  rw [←hr];exact JW 228 _ zjz zid ⟨av,al,ah,ab⟩ ⟨bv,bl,bh,bb⟩ _ g 2 W rfl (by decide) (by decide) h)
 rw [hr];clear hr;obtain ⟨rv,rl,rh,rb⟩:=r;unfold Num.val at C ⊢;dsimp only at C ⊢;go_enter Tryz.func220,Tryz.ntmps220;go_wp2_with (go_at_call 230;(with_reducible refine (C.out _ _ (zf4 (At.new' (by simp)))).mono ?_);rintro e w1 ⟨rfl,hb1⟩;have hB1:=za (zi (zg (zg (zg (zg (Below.refl w.heap.size w) _) _) _) _) hb1);have A8':=za (At.below (((At.new ((w.alloc (.cells #[av,al,ah,ab] 71)).alloc (.cells #[bv,bl,bh,bb] 71)) 71 #[.int .i64 0,.int .i64 0,.int .i64 0,.bool false])).alloc _) hb1);clear hb1;simp only [World.size_alloc] at A8';obtain ⟨r0,r1,r2,r3⟩:=A8'.out.four;have z0:=A8'.out.frozen 0;have z1:=A8'.out.frozen 1;have z2:=A8'.out.frozen 2;have z3:=A8'.out.frozen 3)
 have hk4:=(((A8'.out.set 0 rv rfl).set 1 rl rfl).set 2 rh rfl).set 3 rb rfl;obtain ⟨d0,d1,d2,d3⟩:=hk4.four;exact bodyPost_ret (v:=.agg #[rv,rl,rh,rb]) (by simp [results,Tryz.results220,go_sem,d0,d1,d2,d3]) rfl ⟨rfl,zj (zj (zj (zj hB1.out (by omega) _ _) (by omega) _ _) (by omega) _ _) (by omega) _ _⟩
theorem Yk (a b:Num) (w:World):Calls Tryz.prog 227 #[a.val,b.val] w fun e w'=>e=.returned (a.sub b).val∧Below w.heap.size w w':=by
 obtain ⟨av,al,ah,ab⟩:=a;obtain ⟨bv,bl,bh,bb⟩:=b;have hu:=Tryz.underlying71;have hu9:Tryz.prog.underlying 269=some (.array 2 3):=by kernel_rfl
 obtain ⟨r,hr⟩:=zc (Num.sub ⟨av,al,ah,ab⟩ ⟨bv,bl,bh,bb⟩)
 have C:=za (show ∀(g:Nat) (W:World),Jr W g [(al,bh),(ah,bl)]→Calls Tryz.prog 230 #[.agg #[av,al,ah,ab],.agg #[bv,bl,bh,bb],.func (.func 237) #[] #[],.slice (some ⟨g,0,none⟩) 2 2] W fun e w'=>e=.returned r.val∧Below W.heap.size W w' from fun g W h=>by
  rw [←hr];exact JW 237 _ zjy zh9 ⟨av,al,ah,ab⟩ ⟨bv,bl,bh,bb⟩ _ g 2 W rfl (by decide) (by decide) h)
 rw [hr];clear hr;obtain ⟨rv,rl,rh,rb⟩:=r;unfold Num.val at C ⊢;dsimp only at C ⊢;go_enter Tryz.func227,Tryz.ntmps227;go_wp2_with (go_at_call 230;(with_reducible refine (C.out _ _ (zf4 (At.new' (by simp)))).mono ?_);rintro e w1 ⟨rfl,hb1⟩;have hB1:=za (zi (zg (zg (zg (zg (Below.refl w.heap.size w) _) _) _) _) hb1);have A8':=za (At.below (((At.new ((w.alloc (.cells #[av,al,ah,ab] 71)).alloc (.cells #[bv,bl,bh,bb] 71)) 71 #[.int .i64 0,.int .i64 0,.int .i64 0,.bool false])).alloc _) hb1);clear hb1;simp only [World.size_alloc] at A8';obtain ⟨r0,r1,r2,r3⟩:=A8'.out.four;have z0:=A8'.out.frozen 0;have z1:=A8'.out.frozen 1;have z2:=A8'.out.frozen 2;have z3:=A8'.out.frozen 3)
 have hk4:=(((A8'.out.set 0 rv rfl).set 1 rl rfl).set 2 rh rfl).set 3 rb rfl;obtain ⟨d0,d1,d2,d3⟩:=hk4.four;exact bodyPost_ret (v:=.agg #[rv,rl,rh,rb]) (by simp [results,Tryz.results227,go_sem,d0,d1,d2,d3]) rfl ⟨rfl,zj (zj (zj (zj hB1.out (by omega) _ _) (by omega) _ _) (by omega) _ _) (by omega) _ _⟩
theorem ZO {w:World} {b i g j:Nat} {v u:Value} (h:w.cell? ⟨b,i,none⟩=some v) (hne:b≠g):(w.setCell ⟨g,j,none⟩ u).cell? ⟨b,i,none⟩=some v :=
 (World.cell?_of_block (Below.heap_setCell w ⟨g,j,none⟩ u b hne)).trans h
theorem Yf {w:World} {b i g:Nat} {v u0 u1 u2 u3:Value} (h:w.cell? ⟨b,i,none⟩=some v) (hne:b≠g):((((w.setCell ⟨g,0,none⟩ u0).setCell ⟨g,1,none⟩ u1).setCell ⟨g,2,none⟩ u2).setCell ⟨g,3,none⟩ u3).cell? ⟨b,i,none⟩=some v :=
 ZO (ZO (ZO (ZO h hne) hne) hne) hne
theorem qi {w W:World} (h:Below w.drew.heap.size w.drew W):Below w.heap.size w W:=⟨h.os,h.tape,h.output,h.size,h.block⟩
def zjY (ps:List (Int×Int)) (n:Nat) (w:World) (e:Ending) (w':World):Prop:=∃g,e=.returned (.slice (some ⟨g,0,none⟩) n n)∧Jr w' g ps∧Below w.heap.size w w'
theorem zhe (a b:Num) (w:World):Calls Tryz.prog 232 #[a.val,b.val] w (zjY (zbj a b) 4 w):=by
 obtain ⟨av,al,ah,ab⟩:=a;obtain ⟨bv,bl,bh,bb⟩:=b;have hu:=Tryz.underlying71;have hu9:Tryz.prog.underlying 269=some (.array 2 3):=by kernel_rfl
 unfold Num.val;dsimp only;go_enter Tryz.func232,Tryz.ntmps232;go_wp2;go_ret;exact ⟨_,rfl,zkY (At.new' (by simp)),zg (zg (zg (Below.refl _ _) _) _) _⟩
theorem zck (a:Num) (w:World):Calls Tryz.prog 225 #[a.val] w fun e w'=>e=.returned (a.root).val∧Below w.heap.size w w':=by
 obtain ⟨av,al,ah,ab⟩:=a;have hu:=Tryz.underlying71;have hu9:Tryz.prog.underlying 269=some (.array 2 3):=by kernel_rfl
 obtain ⟨r,hr⟩:=zc (Num.root ⟨av,al,ah,ab⟩)
 have C:=za (show ∀(g:Nat) (W:World),Jr W g [(al,al),(ah,ah)]→Calls Tryz.prog 230 #[.agg #[av,al,ah,ab],.agg #[av,al,ah,ab],.func (.func 235) #[] #[],.slice (some ⟨g,0,none⟩) 2 2] W fun e w'=>e=.returned r.val∧Below W.heap.size W w' from fun g W h=>by
  rw [←hr];exact JW 235 _ zh8 zia ⟨av,al,ah,ab⟩ ⟨av,al,ah,ab⟩ _ g 2 W rfl (by decide) (by decide) h)
 rw [hr];clear hr;obtain ⟨rv,rl,rh,rb⟩:=r;unfold Num.val at C ⊢;dsimp only at C ⊢;go_enter Tryz.func225,Tryz.ntmps225;go_wp2_with (go_at_call 230;(with_reducible refine (C.out _ _ (zf4 (At.new' (by simp)))).mono ?_);rintro e w1 ⟨rfl,hb1⟩;have hB1:=za (zi (zg (zg (zg (Below.refl w.heap.size w) _) _) _) hb1);have A8':=za (At.below (((At.new (w.alloc (.cells #[av,al,ah,ab] 71)) 71 #[.int .i64 0,.int .i64 0,.int .i64 0,.bool false])).alloc _) hb1);clear hb1;simp only [World.size_alloc] at A8';obtain ⟨r0,r1,r2,r3⟩:=A8'.out.four;have z0:=A8'.out.frozen 0;have z1:=A8'.out.frozen 1;have z2:=A8'.out.frozen 2;have z3:=A8'.out.frozen 3)
 have hk4:=(((A8'.out.set 0 rv rfl).set 1 rl rfl).set 2 rh rfl).set 3 rb rfl;obtain ⟨d0,d1,d2,d3⟩:=hk4.four;exact bodyPost_ret (v:=.agg #[rv,rl,rh,rb]) (by simp [results,Tryz.results225,go_sem,d0,d1,d2,d3]) rfl ⟨rfl,zj (zj (zj (zj hB1.out (by omega) _ _) (by omega) _ _) (by omega) _ _) (by omega) _ _⟩
theorem Jb (a b:Num) (w:World):Calls Tryz.prog 222 #[a.val,b.val] w fun e w'=>e=.returned (a.mul b).val∧Below w.heap.size w w':=by
 have D:=za (zhe a b);have C:=za (show ∀(g:Nat) (W:World),Jr W g (zbj a b)→Calls Tryz.prog 230 #[a.val,b.val,.func (.func 233) #[] #[],.slice (some ⟨g,0,none⟩) 4 4] W fun e w'=>e=.returned (a.mul b).val∧Below W.heap.size W w' from fun g W h=>JW 233 _ zjG zib a b _ g 4 W rfl (by decide) (by decide) h);obtain ⟨r,hr⟩:=zc (Num.mul a b);rw [hr] at C ⊢;clear hr;obtain ⟨ps,hps⟩:=zc (zbj a b)
 rw [hps] at C D;clear hps;obtain ⟨av,al,ah,ab⟩:=a;obtain ⟨bv,bl,bh,bb⟩:=b;have hu:=Tryz.underlying71;obtain ⟨rv,rl,rh,rb⟩:=r;unfold Num.val at C D ⊢;dsimp only at C D ⊢;go_enter Tryz.func222,Tryz.ntmps222;go_wp2_with fail;have A2:=za (((At.new w 71 #[av,al,ah,ab]).alloc (.cells #[bv,bl,bh,bb] 71)).alloc (.cells #[.int .i64 0,.int .i64 0,.int .i64 0,.bool false] 71));have A3:=za ((At.new (w.alloc (.cells #[av,al,ah,ab] 71)) 71 #[bv,bl,bh,bb]).alloc (.cells #[.int .i64 0,.int .i64 0,.int .i64 0,.bool false] 71))
 have A4:=za (At.new ((w.alloc (.cells #[av,al,ah,ab] 71)).alloc (.cells #[bv,bl,bh,bb] 71)) 71 #[.int .i64 0,.int .i64 0,.int .i64 0,.bool false]);have B0:=za (zg (zg (zg (Below.refl w.heap.size w) (.cells #[av,al,ah,ab] 71)) (.cells #[bv,bl,bh,bb] 71)) (.cells #[.int .i64 0,.int .i64 0,.int .i64 0,.bool false] 71));obtain ⟨W0,hW0⟩:=zc (((w.alloc (.cells #[av,al,ah,ab] 71)).alloc (.cells #[bv,bl,bh,bb] 71)).alloc (.cells #[.int .i64 0,.int .i64 0,.int .i64 0,.bool false] 71))
 simp only [World.size_alloc] at A2 A3 A4;rw [hW0] at A2 A3 A4 B0 ⊢;clear hW0;obtain ⟨g,hg⟩:=zc (w.heap.size);rw [hg] at A2 A3 A4 B0;simp only [hg];obtain ⟨a0,a1,a2,a3⟩:=A2.out.four;obtain ⟨b0,b1,b2,b3⟩:=A3.out.four;refine je [g+1+1] [0,1,2,3] [4,5,6] (.cons rfl (.cons rfl (.cons rfl (.cons rfl .nil)))) (.cons rfl (.cons rfl (.cons rfl .nil))) (by kernel_rfl) (by kernel_rfl) (fun c a d v w h=>by cases d<;>exact h) ?_
 have ka0:=fun x=>But.cell (G:=[g+1+1]) a0 (by simp<;>omega) x;have ka1:=fun x=>But.cell (G:=[g+1+1]) a1 (by simp<;>omega) x;have ka2:=fun x=>But.cell (G:=[g+1+1]) a2 (by simp<;>omega) x;have ka3:=fun x=>But.cell (G:=[g+1+1]) a3 (by simp<;>omega) x;have kb0:=fun x=>But.cell (G:=[g+1+1]) b0 (by simp<;>omega) x;have kb1:=fun x=>But.cell (G:=[g+1+1]) b1 (by simp<;>omega) x
 have kb2:=fun x=>But.cell (G:=[g+1+1]) b2 (by simp<;>omega) x;have kb3:=fun x=>But.cell (G:=[g+1+1]) b3 (by simp<;>omega) x
 repeat (go_big_quiet_step (fail))
 refine wpQuiet_nil ?_;clear ka0 ka1 ka2 ka3 kb0 kb1 kb2 kb3;refine zp rfl (fun K hK=>?_);go_simp;refine (D.out _).mono ?_;rintro e w1 ⟨gp,rfl,hP,hb1⟩;replace hb1:=qi hb1;refine hK _ _ (zI ((zC.refl _ _).call hb1)) ?_;clear hK K;refine zp rfl (fun K hK=>?_);go_simp;refine (C.out _ _ hP).mono ?_;rintro e w2 ⟨rfl,hb2⟩;refine hK _ _ (zI (((zC.refl _ _).call hb1).call hb2)) ?_;clear hK K;have A8':=za ((A4.out.below hb1).below hb2)
 have KB:=za (zi hb1 hb2);clear hb1 hb2;obtain ⟨r0,r1,r2,r3⟩:=A8'.out.four;have z0:=A8'.out.frozen 0;have z1:=A8'.out.frozen 1;have z2:=A8'.out.frozen 2;have z3:=A8'.out.frozen 3;refine zZ rfl (fun K hK=>?_);go_simp;refine hK _ _ ?_;clear hK K;have hk4:=(((A8'.out.set 0 rv rfl).set 1 rl rfl).set 2 rh rfl).set 3 rb rfl;obtain ⟨d0,d1,d2,d3⟩:=hk4.four;go_wp2_with fail;have hbl:=zq B0.out (by rw [←hg];have:=B0.out.size;omega) KB.out
 exact bodyPost_ret (v:=.agg #[rv,rl,rh,rb]) (by simp [results,Tryz.results222,go_sem,d0,d1,d2,d3]) rfl ⟨rfl,by rw [hg];exact zj (zj (zj (zj hbl (by omega) _ _) (by omega) _ _) (by omega) _ _) (by omega) _ _⟩
theorem XaQ {P:Prop} (h:P:=by
 go_enter Tryz.func226,Tryz.ntmps226;go_wp2;go_ret;exact ⟨by rw [E.out];rfl,zg (Below.refl _ _) _⟩) : P := h
theorem VH (a b:Num) (w:World):Calls Tryz.prog 221 #[a.val,b.val] w fun e w'=>e=.returned (a.div b).val∧Below w.heap.size w w':=by
 obtain ⟨av,al,ah,ab⟩:=a;obtain ⟨bv,bl,bh,bb⟩:=b;have hu:=Tryz.underlying71
 by_cases h1:bl≤0∧0≤bh
 ·have E:=za (show Num.div ⟨av,al,ah,ab⟩ ⟨bv,bl,bh,bb⟩=zaG by unfold Num.div;dsimp only;rw [decide_eq_true h1.1,decide_eq_true h1.2];rfl)
  obtain ⟨h1,h2⟩:=h1;unfold Num.val;dsimp only;go_enter Tryz.func221,Tryz.ntmps221;go_wp2_with fail;have A0:=za (((At.new w 71 #[av,al,ah,ab]).alloc (.cells #[bv,bl,bh,bb] 71)).alloc (.cells #[.int .i64 0,.int .i64 0,.int .i64 0,.bool false] 71));have A1:=za ((At.new (w.alloc (.cells #[av,al,ah,ab] 71)) 71 #[bv,bl,bh,bb]).alloc (.cells #[.int .i64 0,.int .i64 0,.int .i64 0,.bool false] 71))
  have A2:=za (At.new ((w.alloc (.cells #[av,al,ah,ab] 71)).alloc (.cells #[bv,bl,bh,bb] 71)) 71 #[.int .i64 0,.int .i64 0,.int .i64 0,.bool false]);have B0:=za (zg (zg (zg (Below.refl w.heap.size w) (.cells #[av,al,ah,ab] 71)) (.cells #[bv,bl,bh,bb] 71)) (.cells #[.int .i64 0,.int .i64 0,.int .i64 0,.bool false] 71));obtain ⟨W0,hW0⟩:=zc ((((w.alloc (.cells #[av,al,ah,ab] 71)).alloc (.cells #[bv,bl,bh,bb] 71)).alloc (.cells #[.int .i64 0,.int .i64 0,.int .i64 0,.bool false] 71)))
  simp only [World.size_alloc] at A1 A2;have hWg:=za (show W0.heap.size=w.heap.size+3 by rw [←hW0];simp);rw [hW0] at A0 A1 A2 B0 ⊢;clear hW0;obtain ⟨g,hg⟩:=zc (w.heap.size);rw [hg] at A0 A1 A2 B0 hWg
  try simp only [hg]
  refine (Zw _).mono ?_;rintro e w1 ⟨rfl,hb1⟩;have A8':=za (A2.out.below hb1);obtain ⟨r0,r1,r2,r3⟩:=A8'.out.four;have z0:=A8'.out.frozen 0;have z1:=A8'.out.frozen 1;have z2:=A8'.out.frozen 2;have z3:=A8'.out.frozen 3;go_wp2_with fail;have hk4:=(((A8'.out.set 0 (.int .i64 0) rfl).set 1 (.int .i64 0) rfl).set 2 (.int .i64 0) rfl).set 3 (.bool true) rfl;obtain ⟨d0,d1,d2,d3⟩:=hk4.four
  have hbl:=zq B0.out (by rw [hWg.out];omega) hb1;exact bodyPost_ret (v:=.agg #[.int .i64 0,.int .i64 0,.int .i64 0,.bool true]) (by simp [results,Tryz.results221,go_sem,d0,d1,d2,d3]) rfl ⟨by rw [E.out];rfl,by rw [hg];exact zj (zj (zj (zj hbl (by omega) _ _) (by omega) _ _) (by omega) _ _) (by omega) _ _⟩
 ·have E:=za (show Num.div ⟨av,al,ah,ab⟩ ⟨bv,bl,bh,bb⟩=ZN jX ⟨av,al,ah,ab⟩ ⟨bv,bl,bh,bb⟩ (zbj ⟨av,al,ah,ab⟩ ⟨bv,bl,bh,bb⟩) by
   unfold Num.div;dsimp only;rw [if_neg];simp;omega)
  have D:=za (zhe ⟨av,al,ah,ab⟩ ⟨bv,bl,bh,bb⟩);have C:=za (show ∀(g:Nat) (W:World),Jr W g (zbj ⟨av,al,ah,ab⟩ ⟨bv,bl,bh,bb⟩)→Calls Tryz.prog 230 #[Num.val ⟨av,al,ah,ab⟩,Num.val ⟨bv,bl,bh,bb⟩,.func (.func 231) #[] #[],.slice (some ⟨g,0,none⟩) 4 4] W fun e w'=>e=.returned (Num.div ⟨av,al,ah,ab⟩ ⟨bv,bl,bh,bb⟩).val∧Below W.heap.size W w' from fun g W h=>by rw [E.out];exact JW 231 _ zjH zic _ _ _ g 4 W rfl (by decide) (by decide) h)
  obtain ⟨r,hr⟩:=zc (Num.div ⟨av,al,ah,ab⟩ ⟨bv,bl,bh,bb⟩);rw [hr] at C ⊢;clear hr E;obtain ⟨ps,hps⟩:=zc (zbj ⟨av,al,ah,ab⟩ ⟨bv,bl,bh,bb⟩);rw [hps] at C D;clear hps;obtain ⟨rv,rl,rh,rb⟩:=r;unfold Num.val at C D ⊢;dsimp only at C D ⊢
  by_cases h2:bl≤0
  all_goals
   first
    | (have h3:¬ 0≤bh:=fun h=>h1 ⟨h2,h⟩)
    | skip
   clear h1;go_enter Tryz.func221,Tryz.ntmps221;go_wp2_with fail;have A0:=za (((At.new w 71 #[av,al,ah,ab]).alloc (.cells #[bv,bl,bh,bb] 71)).alloc (.cells #[.int .i64 0,.int .i64 0,.int .i64 0,.bool false] 71));have A1:=za ((At.new (w.alloc (.cells #[av,al,ah,ab] 71)) 71 #[bv,bl,bh,bb]).alloc (.cells #[.int .i64 0,.int .i64 0,.int .i64 0,.bool false] 71));have A2:=za (At.new ((w.alloc (.cells #[av,al,ah,ab] 71)).alloc (.cells #[bv,bl,bh,bb] 71)) 71 #[.int .i64 0,.int .i64 0,.int .i64 0,.bool false])
   have B0:=za (zg (zg (zg (Below.refl w.heap.size w) (.cells #[av,al,ah,ab] 71)) (.cells #[bv,bl,bh,bb] 71)) (.cells #[.int .i64 0,.int .i64 0,.int .i64 0,.bool false] 71));obtain ⟨W0,hW0⟩:=zc ((((w.alloc (.cells #[av,al,ah,ab] 71)).alloc (.cells #[bv,bl,bh,bb] 71)).alloc (.cells #[.int .i64 0,.int .i64 0,.int .i64 0,.bool false] 71)));simp only [World.size_alloc] at A1 A2;have hWg:=za (show W0.heap.size=w.heap.size+3 by rw [←hW0];simp)
   rw [hW0] at A0 A1 A2 B0 ⊢;clear hW0;obtain ⟨g,hg⟩:=zc (w.heap.size);rw [hg] at A0 A1 A2 B0 hWg
   try simp only [hg]
   obtain ⟨a0,a1,a2,a3⟩:=A0.out.four;obtain ⟨b0,b1,b2,b3⟩:=A1.out.four;refine je [g+1+1] [0,1,2,3] [4,5,6] (.cons rfl (.cons rfl (.cons rfl (.cons rfl .nil)))) (.cons rfl (.cons rfl (.cons rfl .nil))) (by kernel_rfl) (by kernel_rfl) (fun c a d v w h=>by cases d<;>exact h) ?_;have ka0:=fun x=>But.cell (G:=[g+1+1]) a0 (by simp<;>omega) x;have ka1:=fun x=>But.cell (G:=[g+1+1]) a1 (by simp<;>omega) x
   have ka2:=fun x=>But.cell (G:=[g+1+1]) a2 (by simp<;>omega) x;have ka3:=fun x=>But.cell (G:=[g+1+1]) a3 (by simp<;>omega) x;have kb0:=fun x=>But.cell (G:=[g+1+1]) b0 (by simp<;>omega) x;have kb1:=fun x=>But.cell (G:=[g+1+1]) b1 (by simp<;>omega) x;have kb2:=fun x=>But.cell (G:=[g+1+1]) b2 (by simp<;>omega) x;have kb3:=fun x=>But.cell (G:=[g+1+1]) b3 (by simp<;>omega) x
   repeat (go_big_quiet_step (fail))
   refine wpQuiet_nil ?_;clear ka0 ka1 ka2 ka3 kb0 kb1 kb2 kb3;refine zp rfl (fun K hK=>?_);go_simp;refine (D.out _).mono ?_;rintro e w1 ⟨gp,rfl,hP,hb1⟩;replace hb1:=qi hb1;refine hK _ _ (zI ((zC.refl _ _).call hb1)) ?_;clear hK K;refine zp rfl (fun K hK=>?_);go_simp;refine (C.out _ _ hP).mono ?_;rintro e w2 ⟨rfl,hb2⟩;refine hK _ _ (zI (((zC.refl _ _).call hb1).call hb2)) ?_;clear hK K;have A8':=za ((A2.out.below hb1).below hb2)
   have KB:=za (zi hb1 hb2);clear hb1 hb2;obtain ⟨r0,r1,r2,r3⟩:=A8'.out.four;have z0:=A8'.out.frozen 0;have z1:=A8'.out.frozen 1;have z2:=A8'.out.frozen 2;have z3:=A8'.out.frozen 3;refine zZ rfl (fun K hK=>?_);go_simp;refine hK _ _ ?_;clear hK K;go_wp2_with fail;have hk4:=(((A8'.out.set 0 rv rfl).set 1 rl rfl).set 2 rh rfl).set 3 rb rfl;obtain ⟨d0,d1,d2,d3⟩:=hk4.four;have hbl:=zq B0.out (by rw [hWg.out];omega) KB.out
   exact bodyPost_ret (v:=.agg #[rv,rl,rh,rb]) (by simp [results,Tryz.results221,go_sem,d0,d1,d2,d3]) rfl ⟨rfl,by rw [hg];exact zj (zj (zj (zj hbl (by omega) _ _) (by omega) _ _) (by omega) _ _) (by omega) _ _⟩
theorem zhf (a:Num) (w:World):Calls Tryz.prog 223 #[a.val] w fun e w'=>e=.returned (a.neg).val∧Below w.heap.size w w':=by
 have D:=za (show ∀W,Calls Tryz.prog 137 #[.int .i64 0] W fun e w'=>e=.returned (.agg #[.int .i64 0,.int .i64 0,.int .i64 0,.bool false])∧Below W.heap.size W w' from fun W=>by
  have:=zar 0 W;rw [if_pos (by decide)] at this;exact this)
 have C:=za (show ∀W,Calls Tryz.prog 227 #[.agg #[.int .i64 0,.int .i64 0,.int .i64 0,.bool false],a.val] W fun e w'=>e=.returned (a.neg).val∧Below W.heap.size W w' from fun W=>Yk (jf 0) a W);obtain ⟨r,hr⟩:=zc (Num.neg a);rw [hr] at C ⊢;clear hr;obtain ⟨av,al,ah,ab⟩:=a;have hu:=Tryz.underlying71;obtain ⟨rv,rl,rh,rb⟩:=r;unfold Num.val at C ⊢;dsimp only at C ⊢;go_enter Tryz.func223,Tryz.ntmps223
 go_wp2_with fail;have A0:=za ((At.new w 71 #[av,al,ah,ab]).alloc (.cells #[.int .i64 0,.int .i64 0,.int .i64 0,.bool false] 71));have A1:=za (At.new (w.alloc (.cells #[av,al,ah,ab] 71)) 71 #[.int .i64 0,.int .i64 0,.int .i64 0,.bool false]);have B0:=za (zg (zg (Below.refl w.heap.size w) (.cells #[av,al,ah,ab] 71)) (.cells #[.int .i64 0,.int .i64 0,.int .i64 0,.bool false] 71))
 obtain ⟨W0,hW0⟩:=zc (((w.alloc (.cells #[av,al,ah,ab] 71)).alloc (.cells #[.int .i64 0,.int .i64 0,.int .i64 0,.bool false] 71)));simp only [World.size_alloc] at A1;have hWg:=za (show W0.heap.size=w.heap.size+2 by rw [←hW0];simp);rw [hW0] at A0 A1 B0 ⊢;clear hW0;obtain ⟨g,hg⟩:=zc (w.heap.size);rw [hg] at A0 A1 B0 hWg
 try simp only [hg]
 obtain ⟨a0,a1,a2,a3⟩:=A0.out.four;refine je [g+1] [1] [0,2,3] (.cons rfl .nil) (.cons rfl (.cons rfl (.cons rfl .nil))) (by kernel_rfl) (by kernel_rfl) (fun c a d v w h=>by cases d<;>exact h) ?_;have ka0:=fun x=>But.cell (G:=[g+1]) a0 (by simp<;>omega) x;have ka1:=fun x=>But.cell (G:=[g+1]) a1 (by simp<;>omega) x;have ka2:=fun x=>But.cell (G:=[g+1]) a2 (by simp<;>omega) x
 have ka3:=fun x=>But.cell (G:=[g+1]) a3 (by simp<;>omega) x
 repeat (go_big_quiet_step (fail))
 refine wpQuiet_nil ?_;clear ka0 ka1 ka2 ka3;refine zp rfl (fun K hK=>?_);go_simp;refine (D.out _).mono ?_;rintro e w1 ⟨rfl,hb1⟩;replace hb1:=qi hb1;refine hK _ _ (zI ((zC.refl _ _).call hb1)) ?_;clear hK K;refine zp rfl (fun K hK=>?_);go_simp;refine (C.out _).mono ?_;rintro e w2 ⟨rfl,hb2⟩;refine hK _ _ (zI (((zC.refl _ _).call hb1).call hb2)) ?_;clear hK K;have A8':=za ((A1.out.below hb1).below hb2)
 have KB:=za (zi hb1 hb2);clear hb1 hb2;obtain ⟨r0,r1,r2,r3⟩:=A8'.out.four;have z0:=A8'.out.frozen 0;have z1:=A8'.out.frozen 1;have z2:=A8'.out.frozen 2;have z3:=A8'.out.frozen 3;refine zZ rfl (fun K hK=>?_);go_simp;refine hK _ _ ?_;clear hK K;go_wp2_with fail;have hk4:=(((A8'.out.set 0 rv rfl).set 1 rl rfl).set 2 rh rfl).set 3 rb rfl;obtain ⟨d0,d1,d2,d3⟩:=hk4.four;have hbl:=zq B0.out (by rw [hWg.out];omega) KB.out
 exact bodyPost_ret (v:=.agg #[rv,rl,rh,rb]) (by simp [results,Tryz.results223,go_sem,d0,d1,d2,d3]) rfl ⟨rfl,by rw [hg];exact zj (zj (zj (zj hbl (by omega) _ _) (by omega) _ _) (by omega) _ _) (by omega) _ _⟩
theorem zep (a:Num) (n:Int) (w:World):Calls Tryz.prog 224 #[a.val,n] w fun e w'=>e=.returned (Num.of n).val∧Below w.heap.size w w':=by
 obtain ⟨av,al,ah,ab⟩:=a;have hu:=Tryz.underlying71;have F:=zlv n;obtain ⟨x,hx⟩:=zc ((fof n).1);obtain ⟨k,hk⟩:=zc ((fof n).2);rw [hx,hk] at F;have HF:=za F;clear F
 have D:=za (show ∀W,Calls Tryz.prog 137 #[x] W fun e w'=>e=.returned (jf x).val∧Below W.heap.size W w' from fun W=>by
  refine (zar x W).mono ?_;rintro e w' ⟨rfl,h⟩;refine ⟨?_,h⟩;unfold jf;split<;>rfl)
 have E:=za (show Num.of n=if k=true then jf x else zaG by unfold Num.of;rw [hx,hk]);clear hx hk;cases k
 ·have E':=za (show Num.of n=zaG by rw [E.out];rfl)
  clear E D;unfold Num.val;dsimp only;go_enter Tryz.func224,Tryz.ntmps224;go_wp2_with fail;have A0:=za ((At.new w 71 #[av,al,ah,ab]).alloc (.cells #[.int .i64 0,.int .i64 0,.int .i64 0,.bool false] 71));have A1:=za (At.new (w.alloc (.cells #[av,al,ah,ab] 71)) 71 #[.int .i64 0,.int .i64 0,.int .i64 0,.bool false]);have B0:=za (zg (zg (Below.refl w.heap.size w) (.cells #[av,al,ah,ab] 71)) (.cells #[.int .i64 0,.int .i64 0,.int .i64 0,.bool false] 71))
  obtain ⟨W0,hW0⟩:=zc (((w.alloc (.cells #[av,al,ah,ab] 71)).alloc (.cells #[.int .i64 0,.int .i64 0,.int .i64 0,.bool false] 71)));simp only [World.size_alloc] at A1;have hWg:=za (show W0.heap.size=w.heap.size+2 by rw [←hW0];simp);rw [hW0] at A0 A1 B0 ⊢;clear hW0;obtain ⟨g,hg⟩:=zc (w.heap.size);rw [hg] at A0 A1 B0 hWg
  try simp only [hg]
  refine (HF.out _).mono ?_;rintro e w1 ⟨rfl,hb1⟩;go_wp2_with fail;refine (Zw _).mono ?_;rintro e w2 ⟨rfl,hb2⟩;have A8':=za ((A1.out.below hb1).below hb2);have KB:=za (zi hb1 hb2);clear hb1 hb2;obtain ⟨r0,r1,r2,r3⟩:=A8'.out.four;have z0:=A8'.out.frozen 0;have z1:=A8'.out.frozen 1;have z2:=A8'.out.frozen 2;have z3:=A8'.out.frozen 3;go_wp2_with fail;have hk4:=(((A8'.out.set 0 (.int .i64 0) rfl).set 1 (.int .i64 0) rfl).set 2 (.int .i64 0) rfl).set 3 (.bool true) rfl
  obtain ⟨d0,d1,d2,d3⟩:=hk4.four;have hbl:=zq B0.out (by rw [hWg.out];omega) KB.out;exact bodyPost_ret (v:=.agg #[.int .i64 0,.int .i64 0,.int .i64 0,.bool true]) (by simp [results,Tryz.results224,go_sem,d0,d1,d2,d3]) rfl ⟨by rw [E'.out];rfl,by rw [hg];exact zj (zj (zj (zj hbl (by omega) _ _) (by omega) _ _) (by omega) _ _) (by omega) _ _⟩
 ·have E':=za (show Num.of n=jf x by rw [E.out];rfl)
  clear E;obtain ⟨r,hr⟩:=zc (jf x);rw [hr] at D E';clear hr;obtain ⟨rv,rl,rh,rb⟩:=r;unfold Num.val at D ⊢;dsimp only at D ⊢;go_enter Tryz.func224,Tryz.ntmps224;go_wp2_with fail;have A0:=za ((At.new w 71 #[av,al,ah,ab]).alloc (.cells #[.int .i64 0,.int .i64 0,.int .i64 0,.bool false] 71));have A1:=za (At.new (w.alloc (.cells #[av,al,ah,ab] 71)) 71 #[.int .i64 0,.int .i64 0,.int .i64 0,.bool false])
  have B0:=za (zg (zg (Below.refl w.heap.size w) (.cells #[av,al,ah,ab] 71)) (.cells #[.int .i64 0,.int .i64 0,.int .i64 0,.bool false] 71));obtain ⟨W0,hW0⟩:=zc (((w.alloc (.cells #[av,al,ah,ab] 71)).alloc (.cells #[.int .i64 0,.int .i64 0,.int .i64 0,.bool false] 71)));simp only [World.size_alloc] at A1;have hWg:=za (show W0.heap.size=w.heap.size+2 by rw [←hW0];simp);rw [hW0] at A0 A1 B0 ⊢
  clear hW0;obtain ⟨g,hg⟩:=zc (w.heap.size);rw [hg] at A0 A1 B0 hWg
  try simp only [hg]
  refine (HF.out _).mono ?_;rintro e w1 ⟨rfl,hb1⟩;go_wp2_with fail;refine (D.out _).mono ?_;rintro e w2 ⟨rfl,hb2⟩;have A8':=za ((A1.out.below hb1).below hb2);have KB:=za (zi hb1 hb2);clear hb1 hb2;obtain ⟨r0,r1,r2,r3⟩:=A8'.out.four;have z0:=A8'.out.frozen 0;have z1:=A8'.out.frozen 1;have z2:=A8'.out.frozen 2;have z3:=A8'.out.frozen 3;go_wp2_with fail;have hk4:=(((A8'.out.set 0 rv rfl).set 1 rl rfl).set 2 rh rfl).set 3 rb rfl
  obtain ⟨d0,d1,d2,d3⟩:=hk4.four;have hbl:=zq B0.out (by rw [hWg.out];omega) KB.out;exact bodyPost_ret (v:=.agg #[rv,rl,rh,rb]) (by simp [results,Tryz.results224,go_sem,d0,d1,d2,d3]) rfl ⟨by rw [E'.out],by rw [hg];exact zj (zj (zj (zj hbl (by omega) _ _) (by omega) _ _) (by omega) _ _) (by omega) _ _⟩
theorem zfq (a:Num) (w:World):Calls Tryz.prog 226 #[a.val] w fun e w'=>e=.returned a.sign∧Below w.heap.size w w':=by
 obtain ⟨av,al,ah,ab⟩:=a;have hu:=Tryz.underlying71;unfold Num.val;dsimp only;cases ab
 ·by_cases hz:av=0
  ·have E:=za (show Num.sign ⟨av,al,ah,false⟩=0 from if_pos (Or.inr hz))
   have h0:(av==0)=true:=beq_iff_eq.mpr hz;clear hz;exact XaQ
  ·have h0:(av==0)=false:=beq_eq_false_iff_ne.mpr hz
   have E0:Num.sign ⟨av,al,ah,false⟩=if av<0 then -1 else 1:=if_neg (by simp [hz]);clear hz
   by_cases hn:av<0
   ·rw [if_pos hn] at E0
    have E:=za E0;clear E0;exact XaQ
   ·rw [if_neg hn] at E0
    have E:=za E0;clear E0;exact XaQ
 ·have E:=za (show Num.sign ⟨av,al,ah,true⟩=0 from if_pos (Or.inl rfl))
  exact XaQ
theorem Qz (v l h : Int) (b : Bool) (W : World) : (method 379 71 (.agg #[v, l, h, b]) "Add").run Tryz.prog W = .ok (220, .agg #[v, l, h, b]) W := by kernel_rfl
theorem JL (v l h : Int) (b : Bool) (W : World) : (method 379 71 (.agg #[v, l, h, b]) "Div").run Tryz.prog W = .ok (221, .agg #[v, l, h, b]) W := by kernel_rfl
theorem Qy (v l h : Int) (b : Bool) (W : World) : (method 379 71 (.agg #[v, l, h, b]) "Mul").run Tryz.prog W = .ok (222, .agg #[v, l, h, b]) W := by kernel_rfl
theorem ze2 (v l h : Int) (b : Bool) (W : World) : (method 379 71 (.agg #[v, l, h, b]) "Neg").run Tryz.prog W = .ok (223, .agg #[v, l, h, b]) W := by kernel_rfl
theorem zbp (v l h : Int) (b : Bool) (W : World) : (method 379 71 (.agg #[v, l, h, b]) "Of").run Tryz.prog W = .ok (224, .agg #[v, l, h, b]) W := by kernel_rfl
theorem zah (v l h : Int) (b : Bool) (W : World) : (method 379 71 (.agg #[v, l, h, b]) "Root").run Tryz.prog W = .ok (225, .agg #[v, l, h, b]) W := by kernel_rfl
theorem zdj (v l h : Int) (b : Bool) (W : World) : (method 379 71 (.agg #[v, l, h, b]) "Sign").run Tryz.prog W = .ok (226, .agg #[v, l, h, b]) W := by kernel_rfl
theorem JJ (v l h : Int) (b : Bool) (W : World) : (method 379 71 (.agg #[v, l, h, b]) "Sub").run Tryz.prog W = .ok (227, .agg #[v, l, h, b]) W := by kernel_rfl
theorem ziJ (a b:Num) (w:World):Calls Tryz.prog 169 #[a.val,b.val] w fun e w'=>e=.returned (a.mul b).val∧Below w.heap.size w w':=by
 have C:=za (fun W=>Jb a b W);obtain ⟨r,hr⟩:=zc (Num.mul a b);rw [hr] at C ⊢;clear hr;obtain ⟨av,al,ah,ab⟩:=a;obtain ⟨bv,bl,bh,bb⟩:=b;have hu:=Tryz.underlying71;have hm:=fun W=>Qy av al ah ab W;obtain ⟨rv,rl,rh,rb⟩:=r;unfold Num.val at C ⊢;dsimp only at C ⊢;go_enter Tryz.func169,Tryz.ntmps169;go_wp2_with fail;have A0:=za (((At.new w 71 #[av,al,ah,ab]).alloc (.cells #[bv,bl,bh,bb] 71)).alloc (.cells #[.int .i64 0,.int .i64 0,.int .i64 0,.bool false] 71))
 have A1:=za ((At.new (w.alloc (.cells #[av,al,ah,ab] 71)) 71 #[bv,bl,bh,bb]).alloc (.cells #[.int .i64 0,.int .i64 0,.int .i64 0,.bool false] 71));have A2:=za (At.new ((w.alloc (.cells #[av,al,ah,ab] 71)).alloc (.cells #[bv,bl,bh,bb] 71)) 71 #[.int .i64 0,.int .i64 0,.int .i64 0,.bool false]);have B0:=za (zg (zg (zg (Below.refl w.heap.size w) (.cells #[av,al,ah,ab] 71)) (.cells #[bv,bl,bh,bb] 71)) (.cells #[.int .i64 0,.int .i64 0,.int .i64 0,.bool false] 71))
 obtain ⟨W0,hW0⟩:=zc ((((w.alloc (.cells #[av,al,ah,ab] 71)).alloc (.cells #[bv,bl,bh,bb] 71)).alloc (.cells #[.int .i64 0,.int .i64 0,.int .i64 0,.bool false] 71)));simp only [World.size_alloc] at A1 A2;have hWg:=za (show W0.heap.size=w.heap.size+3 by rw [←hW0];simp);rw [hW0] at A0 A1 A2 B0 ⊢;clear hW0;obtain ⟨g,hg⟩:=zc (w.heap.size);rw [hg] at A0 A1 A2 B0 hWg
 try simp only [hg]
 refine (C.out _).mono ?_;rintro e w1 ⟨rfl,hb1⟩;have A8':=za (A2.out.below hb1);obtain ⟨r0,r1,r2,r3⟩:=A8'.out.four;have z0:=A8'.out.frozen 0;have z1:=A8'.out.frozen 1;have z2:=A8'.out.frozen 2;have z3:=A8'.out.frozen 3;go_wp2_with fail;have hk4:=(((A8'.out.set 0 rv rfl).set 1 rl rfl).set 2 rh rfl).set 3 rb rfl;obtain ⟨d0,d1,d2,d3⟩:=hk4.four;have hbl:=zq B0.out (by rw [hWg.out];omega) hb1
 exact bodyPost_ret (v:=.agg #[rv,rl,rh,rb]) (by simp [results,Tryz.results169,go_sem,d0,d1,d2,d3]) rfl ⟨rfl,by rw [hg];exact zj (zj (zj (zj hbl (by omega) _ _) (by omega) _ _) (by omega) _ _) (by omega) _ _⟩
theorem ziK (a b:Num) (w:World):Calls Tryz.prog 177 #[a.val,b.val] w fun e w'=>e=.returned (a.add b).val∧Below w.heap.size w w':=by
 have C:=za (fun W=>Yl a b W);obtain ⟨r,hr⟩:=zc (Num.add a b);rw [hr] at C ⊢;clear hr;obtain ⟨av,al,ah,ab⟩:=a;obtain ⟨bv,bl,bh,bb⟩:=b;have hu:=Tryz.underlying71;have hm:=fun W=>Qz av al ah ab W;obtain ⟨rv,rl,rh,rb⟩:=r;unfold Num.val at C ⊢;dsimp only at C ⊢;go_enter Tryz.func177,Tryz.ntmps177;go_wp2_with fail;have A0:=za (((At.new w 71 #[av,al,ah,ab]).alloc (.cells #[bv,bl,bh,bb] 71)).alloc (.cells #[.int .i64 0,.int .i64 0,.int .i64 0,.bool false] 71))
 have A1:=za ((At.new (w.alloc (.cells #[av,al,ah,ab] 71)) 71 #[bv,bl,bh,bb]).alloc (.cells #[.int .i64 0,.int .i64 0,.int .i64 0,.bool false] 71));have A2:=za (At.new ((w.alloc (.cells #[av,al,ah,ab] 71)).alloc (.cells #[bv,bl,bh,bb] 71)) 71 #[.int .i64 0,.int .i64 0,.int .i64 0,.bool false]);have B0:=za (zg (zg (zg (Below.refl w.heap.size w) (.cells #[av,al,ah,ab] 71)) (.cells #[bv,bl,bh,bb] 71)) (.cells #[.int .i64 0,.int .i64 0,.int .i64 0,.bool false] 71))
 obtain ⟨W0,hW0⟩:=zc ((((w.alloc (.cells #[av,al,ah,ab] 71)).alloc (.cells #[bv,bl,bh,bb] 71)).alloc (.cells #[.int .i64 0,.int .i64 0,.int .i64 0,.bool false] 71)));simp only [World.size_alloc] at A1 A2;have hWg:=za (show W0.heap.size=w.heap.size+3 by rw [←hW0];simp);rw [hW0] at A0 A1 A2 B0 ⊢;clear hW0;obtain ⟨g,hg⟩:=zc (w.heap.size);rw [hg] at A0 A1 A2 B0 hWg
 try simp only [hg]
 refine (C.out _).mono ?_;rintro e w1 ⟨rfl,hb1⟩;have A8':=za (A2.out.below hb1);obtain ⟨r0,r1,r2,r3⟩:=A8'.out.four;have z0:=A8'.out.frozen 0;have z1:=A8'.out.frozen 1;have z2:=A8'.out.frozen 2;have z3:=A8'.out.frozen 3;go_wp2_with fail;have hk4:=(((A8'.out.set 0 rv rfl).set 1 rl rfl).set 2 rh rfl).set 3 rb rfl;obtain ⟨d0,d1,d2,d3⟩:=hk4.four;have hbl:=zq B0.out (by rw [hWg.out];omega) hb1
 exact bodyPost_ret (v:=.agg #[rv,rl,rh,rb]) (by simp [results,Tryz.results177,go_sem,d0,d1,d2,d3]) rfl ⟨rfl,by rw [hg];exact zj (zj (zj (zj hbl (by omega) _ _) (by omega) _ _) (by omega) _ _) (by omega) _ _⟩
theorem ziI (a b:Num) (w:World):Calls Tryz.prog 182 #[a.val,b.val] w fun e w'=>e=.returned (a.sub b).val∧Below w.heap.size w w':=by
 have C:=za (fun W=>Yk a b W);obtain ⟨r,hr⟩:=zc (Num.sub a b);rw [hr] at C ⊢;clear hr;obtain ⟨av,al,ah,ab⟩:=a;obtain ⟨bv,bl,bh,bb⟩:=b;have hu:=Tryz.underlying71;have hm:=fun W=>JJ av al ah ab W;obtain ⟨rv,rl,rh,rb⟩:=r;unfold Num.val at C ⊢;dsimp only at C ⊢;go_enter Tryz.func182,Tryz.ntmps182;go_wp2_with fail;have A0:=za (((At.new w 71 #[av,al,ah,ab]).alloc (.cells #[bv,bl,bh,bb] 71)).alloc (.cells #[.int .i64 0,.int .i64 0,.int .i64 0,.bool false] 71))
 have A1:=za ((At.new (w.alloc (.cells #[av,al,ah,ab] 71)) 71 #[bv,bl,bh,bb]).alloc (.cells #[.int .i64 0,.int .i64 0,.int .i64 0,.bool false] 71));have A2:=za (At.new ((w.alloc (.cells #[av,al,ah,ab] 71)).alloc (.cells #[bv,bl,bh,bb] 71)) 71 #[.int .i64 0,.int .i64 0,.int .i64 0,.bool false]);have B0:=za (zg (zg (zg (Below.refl w.heap.size w) (.cells #[av,al,ah,ab] 71)) (.cells #[bv,bl,bh,bb] 71)) (.cells #[.int .i64 0,.int .i64 0,.int .i64 0,.bool false] 71))
 obtain ⟨W0,hW0⟩:=zc ((((w.alloc (.cells #[av,al,ah,ab] 71)).alloc (.cells #[bv,bl,bh,bb] 71)).alloc (.cells #[.int .i64 0,.int .i64 0,.int .i64 0,.bool false] 71)));simp only [World.size_alloc] at A1 A2;have hWg:=za (show W0.heap.size=w.heap.size+3 by rw [←hW0];simp);rw [hW0] at A0 A1 A2 B0 ⊢;clear hW0;obtain ⟨g,hg⟩:=zc (w.heap.size);rw [hg] at A0 A1 A2 B0 hWg
 try simp only [hg]
 refine (C.out _).mono ?_;rintro e w1 ⟨rfl,hb1⟩;have A8':=za (A2.out.below hb1);obtain ⟨r0,r1,r2,r3⟩:=A8'.out.four;have z0:=A8'.out.frozen 0;have z1:=A8'.out.frozen 1;have z2:=A8'.out.frozen 2;have z3:=A8'.out.frozen 3;go_wp2_with fail;have hk4:=(((A8'.out.set 0 rv rfl).set 1 rl rfl).set 2 rh rfl).set 3 rb rfl;obtain ⟨d0,d1,d2,d3⟩:=hk4.four;have hbl:=zq B0.out (by rw [hWg.out];omega) hb1
 exact bodyPost_ret (v:=.agg #[rv,rl,rh,rb]) (by simp [results,Tryz.results182,go_sem,d0,d1,d2,d3]) rfl ⟨rfl,by rw [hg];exact zj (zj (zj (zj hbl (by omega) _ _) (by omega) _ _) (by omega) _ _) (by omega) _ _⟩
end Go.Proofs.YtcoiklclbljjeaaGreatDoor.L
