/- Lemmas of the card's proof. -/
import Derived.WalkLawsBesides
import Derived.Test.YtcoiklclbljjeaaGreatDoorM04
set_option linter.unusedVariables false
set_option linter.unusedSimpArgs false
set_option maxRecDepth 100000
set_option maxHeartbeats 16000000
namespace Go.Proofs.YtcoiklclbljjeaaGreatDoor.L
open Go.RowKit
theorem XaE {P:Prop} (h:P:=by
 have HS:=za hs;clear hs;go_wp2
 go_round
 case rel=>exact ⟨k+1,by omega,by omega,by go_num,by rw [HS.out]⟩
 case measure=>simp [intOf];omega) : P := h
def mn (a b:Int):Int:=if b<a then b else a
def mx (a b:Int):Int:=if a<b then b else a
def ZU (l:List Int):Int:=match l with | []=>0|x::xs=>xs.foldl mn x
def ZV (l:List Int):Int:=match l with | []=>0|x::xs=>xs.foldl mx x
theorem zhO (l:List Int) (x:Int) (h:l≠[]):ZU (l++[x])=mn (ZU l) x:=by
 cases l with
 | nil=>exact absurd rfl h
 | cons y ys=>simp [ZU,List.foldl_append]
theorem zhQ (l:List Int) (x:Int) (h:l≠[]):ZV (l++[x])=mx (ZV l) x:=by
 cases l with
 | nil=>exact absurd rfl h
 | cons y ys=>simp [ZV,List.foldl_append]
theorem zc7 {l:List Int} {k:Nat} {x:Int} (h:l[k]?=some x):l.take (k+1)=l.take k++[x]:=by
 rw [List.take_add_one,h];rfl
theorem zfS (A:Option Addr) (n c:Nat) (l:List Int) (w:World) (hr:zU w A n c l) (hn:0<n) (hm:n≤1000) :
  Calls Tryz.prog 240 #[.slice A n c] w fun e w'=>e=.returned (.int .i64 (ZU l))∧w=w':=by
 have H:=za hr;have hcap:=hr.2.1;obtain ⟨b,o,x0,rfl,h0,hc0⟩:=hr.at_ hn;rw [Nat.add_zero] at hc0
 have e1:ZU (l.take 1)=x0:=by
  cases l with
  | nil=>simp at h0
  | cons y ys=>simp at h0;subst h0;rfl
 have E1:=za e1;have HL:=za hr.1;clear hr h0 e1;go_enter Tryz.func240,Tryz.ntmps240;go_wp2
 go_loop [3,4] (fun m i=>∃k:Nat,1≤k∧k≤n∧i=.int .i64 k∧m=.int .i64 (ZU (l.take k))) (fun _ i=>n-(intOf i).toNat)
 case atStart=>exact ⟨1,by omega,by omega,rfl,by rw [E1.out]⟩
 case round =>
  obtain ⟨k,hk1,hk,rfl,rfl⟩:=hrel
  by_cases hlt:k<n
  ·obtain ⟨b', o', x,hA,hx,hc⟩:=H.out.at_ hlt
   obtain ⟨rfl,rfl⟩:b'=b∧o'=o:=by injection hA with hA;injection hA with h1 h2;exact ⟨h1.symm,h2.symm⟩
   have hs:=zhO (l.take k) x (by intro h;have:=congrArg List.length h;simp [HL.out] at this;omega);rw [←zc7 hx] at hs;clear hA hx;obtain ⟨M,hM⟩:=zc (ZU (l.take k));rw [hM] at hs;rw [hM];clear hM;unfold mn at hs
   by_cases hcmp:x<M
   ·rw [if_pos hcmp] at hs
    exact XaE
   ·rw [if_neg hcmp] at hs
    exact XaE
  ·have e:l.take k=l:=List.take_of_length_le (by rw [HL.out];omega)
   rw [e];clear e;go_wp2;go_ret;exact ⟨rfl,rfl⟩
theorem zfT (A:Option Addr) (n c:Nat) (l:List Int) (w:World) (hr:zU w A n c l) (hn:0<n) (hm:n≤1000) :
  Calls Tryz.prog 241 #[.slice A n c] w fun e w'=>e=.returned (.int .i64 (ZV l))∧w=w':=by
 have H:=za hr;have hcap:=hr.2.1;obtain ⟨b,o,x0,rfl,h0,hc0⟩:=hr.at_ hn;rw [Nat.add_zero] at hc0
 have e1:ZV (l.take 1)=x0:=by
  cases l with
  | nil=>simp at h0
  | cons y ys=>simp at h0;subst h0;rfl
 have E1:=za e1;have HL:=za hr.1;clear hr h0 e1;go_enter Tryz.func241,Tryz.ntmps241;go_wp2
 go_loop [3,4] (fun m i=>∃k:Nat,1≤k∧k≤n∧i=.int .i64 k∧m=.int .i64 (ZV (l.take k))) (fun _ i=>n-(intOf i).toNat)
 case atStart=>exact ⟨1,by omega,by omega,rfl,by rw [E1.out]⟩
 case round =>
  obtain ⟨k,hk1,hk,rfl,rfl⟩:=hrel
  by_cases hlt:k<n
  ·obtain ⟨b', o', x,hA,hx,hc⟩:=H.out.at_ hlt
   obtain ⟨rfl,rfl⟩:b'=b∧o'=o:=by injection hA with hA;injection hA with h1 h2;exact ⟨h1.symm,h2.symm⟩
   have hs:=zhQ (l.take k) x (by intro h;have:=congrArg List.length h;simp [HL.out] at this;omega);rw [←zc7 hx] at hs;clear hA hx;obtain ⟨M,hM⟩:=zc (ZV (l.take k));rw [hM] at hs;rw [hM];clear hM;unfold mx at hs
   by_cases hcmp:M<x
   ·rw [if_pos hcmp] at hs
    exact XaE
   ·rw [if_neg hcmp] at hs
    exact XaE
  ·have e:l.take k=l:=List.take_of_length_le (by rw [HL.out];omega)
   rw [e];clear e;go_wp2;go_ret;exact ⟨rfl,rfl⟩
theorem Xam {P:Prop} (h:P:=by
 have hk4:=(((A8'.out.set 0 (.int .i64 0) rfl).set 1 (.int .i64 0) rfl).set 2 (.int .i64 0) rfl).set 3 (.bool true) rfl;obtain ⟨d0,d1,d2,d3⟩:=hk4.four;have hbl:=zq B0.out (by rw [←hg4];have:=B0.out.size;omega) (zi KW.out KB.out);exact bodyPost_ret (v:=.agg #[.int .i64 0,.int .i64 0,.int .i64 0,.bool true]) (by simp [results,Tryz.results230,go_sem,d0,d1,d2,d3]) rfl ⟨by rw [E.out];rfl,by rw [hg4];exact zj (zj (zj (zj hbl (by omega) _ _) (by omega) _ _) (by omega) _ _) (by omega) _ _⟩) : P := h
abbrev Op3:=Int→Int→Int→Int×Bool
def ziF (F:Nat) (f:Op3):Prop:=∀(x y m:Int) (W:World),Calls Tryz.prog F #[x,y,m] W fun e w'=>e=.returned (.tuple #[.int .i64 (f x y m).1,.bool (f x y m).2])∧Below W.heap.size W w'
def pOk (f:Op3) (p:Int×Int):Bool:=(f p.1 p.2 1).2&&(f p.1 p.2 2).2
def pLo (f:Op3) (p:Int×Int):Int:=(f p.1 p.2 1).1
def pHi (f:Op3) (p:Int×Int):Int:=(f p.1 p.2 2).1
def ZN (f:Op3) (a b:Num) (ps:List (Int×Int)):Num :=
 if ((f a.v b.v 0).2&&ps.all (pOk f)&&(a.fine&&b.fine))=true then ⟨(f a.v b.v 0).1,ZU (ps.map (pLo f)),ZV (ps.map (pHi f)),false⟩ else zaG
def Jr (w:World) (g:Nat) (ps:List (Int×Int)):Prop:=∀k p,ps[k]?=some p→w.cell? ⟨g,k*2,none⟩=some (.int .i64 p.1)∧w.cell? ⟨g,k*2+1,none⟩=some (.int .i64 p.2)
theorem Jr.below {w w':World} {g:Nat} {ps:List (Int×Int)} (h:Jr w g ps) (hb:Below w.heap.size w w'):Jr w' g ps:=fun k p hp=>⟨zR hb _ _ _ (h k p hp).1,zR hb _ _ _ (h k p hp).2⟩
theorem At.grown {w w':World} {g:Nat} {t:TypeId} {cs:Array Value} {row:Option Nat} (h:At w g t cs) (hb:w.grownBy w' row) (hg:some g≠row):At w' g t cs:=(hb.block g h.lt hg).trans h
theorem zdA {w0 w w':World} {v:Value} {xs:List Int} (hb:Below w0.heap.size w0 w) (hown:qH w w0.heap.size v xs) (hg:w.grownBy w' v.ownBlock):Below w0.heap.size w0 w' :=
 hb.grown hg hb.size fun k hk=>(World.ownsRow.lt hown k hk).1
theorem zq {B:Nat} {w W0 W:World} (h:Below B w W0) (hB:B≤W0.heap.size) (k:Below W0.heap.size W0 W):Below B w W:=h.trans (k.mono hB)
theorem zj {B g:Nat} {w W:World} (h:Below B w W) (hg:B≤g) (i:Nat) (u:Value):Below B w (W.setCell ⟨g,i,none⟩ u):=h.setCell hg u
theorem zkd {a b:Option Nat} (h:a=none∨a≠b):b=none∨b≠a:=by
 rcases h with rfl|h
 ·cases b with
  | none=>exact Or.inl rfl
  | some x=>exact Or.inr (by simp)
 ·exact Or.inr (Ne.symm h)
theorem zk0 {w:World} {B:Nat} {v1 v2:Value} {g1:Nat} {ys:List Int} (hne:v1.ownBlock=none∨v1.ownBlock≠v2.ownBlock) (h2:qH w B v2 ys) (hat:v1.ownBlock=some g1∨g1=w.heap.size):v2.ownBlock≠some g1:=by
 intro h;rcases hat with hat|rfl
 ·rcases hne with k|k
  ·rw [k] at hat;cases hat
  ·exact k (hat.trans h.symm)
 ·have:=(World.ownsRow.lt h2 _ h).2
  omega
theorem qH.alloc {w:World} {B:Nat} {v:Value} {xs:List Int} (h:qH w B v xs) (o:Obj):qH (w.alloc o) B v xs:=World.ownsRow.alloc h o
theorem zH.alloc {w:World} {B:Nat} {v:Value} {xs:List Num} (h:zH w B v xs) (o:Obj):zH (w.alloc o) B v xs:=World.ownsRow.alloc h o
theorem qH.ltb {w:World} {B g n c:Nat} {xs:List Int} (h:qH w B (.slice (some ⟨g,0,none⟩) n c) xs):g<w.heap.size:=(World.ownsRow.lt h g rfl).2
theorem zkZ {w:World} {B g1 g2 n c:Nat} {v2:Value} {xs:List Int} (h1:v2.ownBlock≠some g1) (ho:qH w B (.slice (some ⟨g1,0,none⟩) n c) xs) (hat:v2.ownBlock=some g2∨g2=w.heap.size):g1≠g2:=by
 rintro rfl;rcases hat with h|h
 ·exact h1 h
 ·have:=ho.ltb
  omega
theorem JW (F:Nat) (f:Op3) (hf:ziF F f) (heF:∀(args:Array Value) (W:World),(callFunc F args).run Tryz.prog W=.ok (.enter F args) W) (a b:Num) (ps:List (Int×Int)) (gp:Nat) (n:Nat) (w:World) (hn:ps.length=n) (hn0:0<n) (hn1:n≤100) (hp:Jr w gp ps) :
  Calls Tryz.prog 230 #[a.val,b.val,.func (.func F) #[] #[],.slice (some ⟨gp,0,none⟩) n n] w fun e w'=>e=.returned (ZN f a b ps).val∧Below w.heap.size w w':=by
 obtain ⟨av,al,ah,ab⟩:=a;obtain ⟨bv,bl,bh,bb⟩:=b;have hu:=Tryz.underlying71;have HF:=za hf;have HP:=za hp;have HN:=za hn;clear hf hp hn;unfold Num.val;dsimp only;obtain ⟨x0,hx0⟩:=zc ((f av bv 0).1);obtain ⟨k0,hk0⟩:=zc ((f av bv 0).2);have HC:=za (show ∀W,Calls Tryz.prog F #[av,bv,.int .i64 0] W fun e w'=>e=.returned (.tuple #[x0,k0])∧Below W.heap.size W w' from fun W=>by rw [←hx0,←hk0];exact HF.out av bv 0 W)
 go_enter Tryz.func230,Tryz.ntmps230;go_wp2_with fail;have A4:=za (((At.new w 71 #[av,al,ah,ab]).alloc (.cells #[bv,bl,bh,bb] 71)).alloc (.cells #[.int .i64 0,.int .i64 0,.int .i64 0,.bool false] 71));have A5:=za ((At.new (w.alloc (.cells #[av,al,ah,ab] 71)) 71 #[bv,bl,bh,bb]).alloc (.cells #[.int .i64 0,.int .i64 0,.int .i64 0,.bool false] 71));have A8:=za (At.new ((w.alloc (.cells #[av,al,ah,ab] 71)).alloc (.cells #[bv,bl,bh,bb] 71)) 71 #[.int .i64 0,.int .i64 0,.int .i64 0,.bool false])
 have B0:=za (zg (zg (zg (Below.refl w.heap.size w) (.cells #[av,al,ah,ab] 71)) (.cells #[bv,bl,bh,bb] 71)) (.cells #[.int .i64 0,.int .i64 0,.int .i64 0,.bool false] 71));obtain ⟨W0,hW0⟩:=zc (((w.alloc (.cells #[av,al,ah,ab] 71)).alloc (.cells #[bv,bl,bh,bb] 71)).alloc (.cells #[.int .i64 0,.int .i64 0,.int .i64 0,.bool false] 71));simp only [World.size_alloc] at A4 A5 A8;rw [hW0] at A4 A5 A8 B0 ⊢
 clear hW0;obtain ⟨g4,hg4⟩:=zc (w.heap.size);rw [hg4] at A4 A5 A8 B0;simp only [hg4];refine (HC.out _).mono ?_;rintro e w1 ⟨rfl,hb1⟩;have B1:=za hb1;clear hb1;go_wp2_with fail
 go_loopw [10,11,12,30] (fun is v1 v2 i W=>∃(k:Nat) (B:Bool),k≤n∧i=.int .i64 k∧is=.bool B∧Hid (B=(k0&&(ps.take k).all (pOk f)))∧Hid (Below W0.heap.size W0 W) ∧
   Hid (qH W W0.heap.size v1 ((ps.take k).map (pLo f)))∧Hid (qH W W0.heap.size v2 ((ps.take k).map (pHi f)))∧Hid (v1.ownBlock=none∨v1.ownBlock≠v2.ownBlock)) (fun _ _ _ i _=>n-(intOf i).toNat)
 case atStart=>exact ⟨0,k0,by omega,rfl,rfl,za (by simp),B1,za (qH.nil_ _ _),za (qH.nil_ _ _),za (Or.inl rfl)⟩
 case round =>
  obtain ⟨k,B,hk,rfl,rfl,HB,HW,HO1,HO2,HNE⟩:=hrel
  by_cases hlt:k<n
  ·obtain ⟨px,py,hpk⟩:∃px py,ps[k]?=some (px,py):=⟨_,_,List.getElem?_eq_getElem (by rw [HN.out];exact hlt)⟩
   have HPK:=za hpk;obtain ⟨hc0,hc1⟩:=((HP.out.below (w:=w) (w':=W0) (by rw [hg4];exact B0.out)).below HW.out) k _ hpk;dsimp only at hc0 hc1;obtain ⟨y1,hy1⟩:=zc ((f px py 1).1);obtain ⟨o1,ho1⟩:=zc ((f px py 1).2);obtain ⟨y2,hy2⟩:=zc ((f px py 2).1);obtain ⟨o2,ho2⟩:=zc ((f px py 2).2);have HC1:=za (show ∀W,Calls Tryz.prog F #[px,py,.int .i64 1] W fun e w'=>e=.returned (.tuple #[y1,o1])∧Below W.heap.size W w' from fun W=>by rw [←hy1,←ho1];exact HF.out px py 1 W)
   have HC2:=za (show ∀W,Calls Tryz.prog F #[px,py,.int .i64 2] W fun e w'=>e=.returned (.tuple #[y2,o2])∧Below W.heap.size W w' from fun W=>by rw [←hy2,←ho2];exact HF.out px py 2 W);have hu9:Tryz.prog.underlying 269=some (.array 2 3):=by kernel_rfl
   have HY1:=za hy1;have HY2:=za hy2;have HP1:=za ho1;have HP2:=za ho2;clear hpk hy1 ho1 hy2 ho2;go_wp2_with fail;have AP:=za (At.new wr 269 #[px,py]);have HW1:=za (zg HW.out (.cells #[px,py] 269));have O1:=za (HO1.out.alloc (.cells #[px,py] 269));have O2:=za (HO2.out.alloc (.cells #[px,py] 269));obtain ⟨W1,hW1⟩:=zc (wr.alloc (.cells #[px,py] 269));obtain ⟨g,hg⟩:=zc (wr.heap.size)
   rw [hW1] at HW1 O1 O2 AP ⊢;rw [hg] at AP;simp only [hg];refine (HC1.out _).mono ?_;rintro e w2 ⟨rfl,hb2⟩;have AP2:=za (AP.out.below hb2);have HW2:=za (zi HW1.out hb2);have O1a:=za (O1.out.below hb2);have O2a:=za (O2.out.below hb2);have d0:=AP2.out.cell 0;have d1:=AP2.out.cell 1;clear hb2 hW1 hc0 hc1;go_wp2_with fail;refine (HC2.out _).mono ?_;rintro e w3 ⟨rfl,hb3⟩;have HW3:=za (zi HW2.out hb3)
   have O1b:=za (O1a.out.below hb3);have O2b:=za (O2a.out.below hb3);clear hb3 d0 d1;have hl1:((ps.take k).map (pLo f)).length≤1000:=by rw [List.length_map,List.length_take];omega
   have hl2:((ps.take k).map (pHi f)).length≤1000:=by rw [List.length_map,List.length_take];omega
   have e1:((ps.take k).map (pLo f))++[y1]=(ps.take (k+1)).map (pLo f):=by
    rw [List.take_add_one,HPK.out];simp [pLo,HY1.out]
   have e2:((ps.take k).map (pHi f))++[y2]=(ps.take (k+1)).map (pHi f):=by
    rw [List.take_add_one,HPK.out];simp [pHi,HY2.out]
   have e3:(B&&o1&&o2)=(k0&&(ps.take (k+1)).all (pOk f)):=by
    rw [HB.out,List.take_add_one,HPK.out];simp [pOk,HP1.out,HP2.out,Bool.and_assoc]
   obtain ⟨l1,hl1e⟩:=zc ((ps.take k).map (pLo f));obtain ⟨l2,hl2e⟩:=zc ((ps.take k).map (pHi f));rw [hl1e] at hl1 e1 O1b;rw [hl2e] at hl2 e2 O2b;have E1:=za e1;have E2:=za e2;have E3:=za e3;have L1:=za hl1;have L2:=za hl2;clear e1 e2 e3 hl1e hl2e hl1 hl2;cases B<;>cases o1
   all_goals
    go_wp2_with (first | (at_builtin;refine vA rfl (.tmp 59) (.tmp 61) rfl W0.heap.size u11 l1 y1 _ rfl (O1b.out.alloc _) rfl (At.new _ _ _) L1.out (zg HW3.out _).size ?_;intro g1 c1 w4 hown1 hgrow1 hat1 hg1;have HW4:=za (zdA (zg HW3.out _) (O1b.out.alloc _) hgrow1);have O1c:=za hown1;have O2c:=za ((O2b.out.alloc _).kept hgrow1 (zkd HNE.out));have NEc:=za (zk0 HNE.out (O2b.out.alloc _) hat1);clear hown1 hgrow1 hat1)|(at_builtin;refine vA rfl (.tmp 63) (.tmp 65) rfl W0.heap.size u12 l2 y2 _ rfl (O2c.out.alloc _) rfl (At.new _ _ _) L2.out (zg HW4.out _).size ?_;intro g2 c2 w5 hown2 hgrow2 hat2 hg2;have HW5:=za (zdA (zg HW4.out _) (O2c.out.alloc _) hgrow2);have O2d:=za hown2;have NEd:=za (zkZ NEc.out (O1c.out.alloc _) hat2);have O1d:=za ((O1c.out.alloc _).kept hgrow2 (Or.inr (Ne.symm NEc.out)));clear hown2 hgrow2 hat2))
    rw [E1.out] at O1d;rw [E2.out] at O2d;go_roundw
    case rel=>exact ⟨k+1,_,by omega,by go_num,rfl,za (by rw [←E3.out];rfl),HW5,O1d,O2d,za (Or.inr (by simp [Value.ownBlock];exact NEd.out))⟩
    case measure=>simp [intOf];omega
  ·obtain rfl:k=n:=by omega
   have et:ps.take k=ps:=List.take_of_length_le (by rw [HN.out];exact Nat.le_refl _);rw [et] at HB HO1 HO2;clear et;obtain ⟨g1,c1,rfl,hg1,hlt1,hc1⟩:=qk HO1.out (by rw [List.length_map,HN.out];exact hn0);obtain ⟨g2,c2,rfl,hg2,hlt2,hc2⟩:=qk HO2.out (by rw [List.length_map,HN.out];exact hn0);have I1:=za HO1.out.ints;have I2:=za HO2.out.ints;have L1:=za (show (ps.map (pLo f)).length=k by rw [List.length_map,HN.out])
   have L2:=za (show (ps.map (pHi f)).length=k by rw [List.length_map,HN.out]);rw [L1.out] at I1 hc1;rw [L2.out] at I2 hc2;rw [L1.out,L2.out];have KW:=za HW.out;obtain ⟨fa,hfa⟩:=zc (Js av al ah ab);obtain ⟨fb,hfb⟩:=zc (Js bv bl bh bb);have FA:=za (show ∀W,Calls Tryz.prog 63 #[.agg #[av,al,ah,ab]] W fun e w'=>e=.returned fa∧Below W.heap.size W w' from fun W=>by rw [←hfa];exact JX _ _ _ _ _)
   have FB:=za (show ∀W,Calls Tryz.prog 63 #[.agg #[bv,bl,bh,bb]] W fun e w'=>e=.returned fb∧Below W.heap.size W w' from fun W=>by rw [←hfb];exact JX _ _ _ _ _);obtain ⟨m1,hm1⟩:=zc (ZU (ps.map (pLo f)));obtain ⟨m2,hm2⟩:=zc (ZV (ps.map (pHi f)));have M1:=za (show ∀W,Below wr.heap.size wr W→Calls Tryz.prog 240 #[.slice (some ⟨g1,0,none⟩) k c1] W fun e w'=>e=.returned m1∧W=w' from fun W hW=>by rw [←hm1];exact zfS _ _ _ _ W (I1.out.below hW) hn0 (by omega))
   have M2:=za (show ∀W,Below wr.heap.size wr W→Calls Tryz.prog 241 #[.slice (some ⟨g2,0,none⟩) k c2] W fun e w'=>e=.returned m2∧W=w' from fun W hW=>by rw [←hm2];exact zfT _ _ _ _ W (I2.out.below hW) hn0 (by omega))
   have E:=za (show ZN f ⟨av,al,ah,ab⟩ ⟨bv,bl,bh,bb⟩ ps=if (B&&(fa&&fb))=true then ⟨x0,m1,m2,false⟩ else zaG by
    unfold ZN;dsimp only;rw [hx0,hk0,←HB.out];unfold Num.fine;dsimp only;rw [hfa,hfb,hm1,hm2])
   clear hfa hfb hm1 hm2 hx0 hk0;obtain ⟨a0,a1,a2,a3⟩:=(A4.out.below KW.out).four;obtain ⟨b0,b1,b2,b3⟩:=(A5.out.below KW.out).four;cases B
   ·go_wp2_with (go_at_call 154;refine (Zw _).mono ?_;rintro e w4 ⟨rfl,hb4⟩;have KB:=za hb4;have A8':=za (A8.out.below (zi KW.out KB.out));obtain ⟨r0,r1,r2,r3⟩:=A8'.out.four;have z0:=A8'.out.frozen 0;have z1:=A8'.out.frozen 1;have z2:=A8'.out.frozen 2;have z3:=A8'.out.frozen 3;clear hb4)
    exact Xam
   ·cases fa
    ·go_wp2_with (first | (go_at_call 63;(with_reducible refine (FA.out _).mono ?_);rintro e w2 ⟨rfl,hb2⟩;have KA:=za hb2;obtain ⟨q0,q1,q2,q3⟩:=(A5.out.below (zi KW.out hb2)).four;clear hb2)|(go_at_call 154;refine (Zw _).mono ?_;rintro e w4 ⟨rfl,hb4⟩;have KB:=za (zi KA.out hb4);have A8':=za (A8.out.below (zi KW.out KB.out));obtain ⟨r0,r1,r2,r3⟩:=A8'.out.four;have z0:=A8'.out.frozen 0;have z1:=A8'.out.frozen 1;have z2:=A8'.out.frozen 2;have z3:=A8'.out.frozen 3;clear hb4))
     exact Xam
    ·cases fb
     ·go_wp2_with (first | (go_at_call 63;(with_reducible refine (FA.out _).mono ?_);rintro e w2 ⟨rfl,hb2⟩;have KA:=za hb2;obtain ⟨q0,q1,q2,q3⟩:=(A5.out.below (zi KW.out hb2)).four;clear hb2)|(go_at_call 63;(with_reducible refine (FB.out _).mono ?_);rintro e w3 ⟨rfl,hb3⟩;have KC:=za (zi KA.out hb3);clear hb3)|(go_at_call 154;refine (Zw _).mono ?_;rintro e w4 ⟨rfl,hb4⟩;have KB:=za (zi KC.out hb4);have A8':=za (A8.out.below (zi KW.out KB.out));obtain ⟨r0,r1,r2,r3⟩:=A8'.out.four;have z0:=A8'.out.frozen 0;have z1:=A8'.out.frozen 1;have z2:=A8'.out.frozen 2;have z3:=A8'.out.frozen 3;clear hb4))
      exact Xam
     ·go_wp2_with (first | (go_at_call 63;(with_reducible refine (FA.out _).mono ?_);rintro e w2 ⟨rfl,hb2⟩;have KA:=za hb2;obtain ⟨q0,q1,q2,q3⟩:=(A5.out.below (zi KW.out hb2)).four;clear hb2)|(go_at_call 63;(with_reducible refine (FB.out _).mono ?_);rintro e w3 ⟨rfl,hb3⟩;have KB:=za (zi KA.out hb3);have A8':=za (A8.out.below (zi KW.out KB.out));obtain ⟨r0,r1,r2,r3⟩:=A8'.out.four;have z0:=A8'.out.frozen 0;have z1:=A8'.out.frozen 1;have z2:=A8'.out.frozen 2;have z3:=A8'.out.frozen 3;clear hb3)|(go_at_call 240;(with_reducible refine (M1.out _ KB.out).mono ?_);rintro e w' ⟨rfl,rfl⟩)|(go_at_call 241;(with_reducible refine (M2.out _ KB.out).mono ?_);rintro e w' ⟨rfl,rfl⟩))
      have hk4:=(((A8'.out.set 0 x0 rfl).set 1 m1 rfl).set 2 m2 rfl).set 3 (.bool false) rfl;obtain ⟨d0,d1,d2,d3⟩:=hk4.four;have hbl:=zq B0.out (by rw [←hg4];have:=B0.out.size;omega) (zi KW.out KB.out);exact bodyPost_ret (v:=.agg #[x0,m1,m2,.bool false]) (by simp [results,Tryz.results230,go_sem,d0,d1,d2,d3]) rfl ⟨by rw [E.out];rfl,by rw [hg4];exact zj (zj (zj (zj hbl (by omega) _ _) (by omega) _ _) (by omega) _ _) (by omega) _ _⟩
end Go.Proofs.YtcoiklclbljjeaaGreatDoor.L
