/- Lemmas of the card's proof. -/
import Derived.Test.YtcoiklclbljjeaaGreatDoorM32
set_option linter.unusedVariables false
set_option linter.unusedSimpArgs false
set_option maxRecDepth 100000
set_option maxHeartbeats 16000000
namespace Go.Proofs.YtcoiklclbljjeaaGreatDoor.L
open Go.RowKit
theorem Xbx {P:Prop} (h:P:=by
 rintro e w1 ⟨rfl,hb⟩;have hB:=hbz.trans (hb.mono hbz.size);go_wp2_with fail;go_ret;exact ⟨rfl,hB⟩) : P := h
section
attribute [local go_sem] Oper.semAt_some ve
theorem Zr {w W:World} {o:Obj} (h:w.alloc o=W):Below w.heap.size w W:=by rw [←h];exact zg (Below.refl _ _) o
theorem zfX (nf:Nat) (hf1:1≤nf) (h:Nat) (n:Nat) (hn:n≤4) (A0:Option Addr) (c0:Nat) (A1:Option Addr) (m1 c1:Nat) (B0:Option Addr) (d0:Nat) (B1:Option Addr) (k1 d1:Nat) (x p y s:List Num) (hp:zt n n p) (hs:zt n n s) (av al ah:Int) (ab:Bool) (bv bl bh:Int) (bb:Bool) (cv cl ch:Int) (cb:Bool) (dv dl dh:Int) (db:Bool) (g:Nat) (w:World) (hh:h<w.heap.size) (hg:At w g 76 #[.slice A0 n c0,.int .i64 (n:Int),.int .i64 (n:Int),.slice A1 m1 c1,.slice B0 n d0,.int .i64 (n:Int),.int .i64 (n:Int),.slice B1 k1 d1,av,al,ah,ab,bv,bl,bh,bb,cv,cl,ch,cb,dv,dl,dh,db]) (h0:zk w A0 n c0 x) (h1:zk w A1 m1 c1 p) (h2:zk w B0 n d0 y) (h3:zk w B1 k1 d1 s) :
  SeqStopsK Fence.wide nf Tryz.prog 183 #[.pointer (some ⟨g,0,none⟩)] zfu (KC h) (fun zs=>zs=(Zl x p).zip (Zk n y s)) (fun pre=>pre <+: (Zl x p).zip (Zk n y s)) (n+n*n) w:=fun l J Jx W hW hJ hJx hY j0 =>
 ziY nf hf1 h n hn A0 c0 A1 m1 c1 B0 d0 B1 k1 d1 x p y s hp hs av al ah ab bv bl bh bb cv cl ch cb dv dl dh db l g J Jx hY (fun pre A B hj hb=>hJ pre A B none hj (zN hb) (fun r e=>by cases e)) W (Nat.lt_of_lt_of_le hh hW.size) (hg.below hW) (h0.below hW) (h1.below hW) (h2.below hW) (h3.below hW) j0
def zlJ (F:Nat) (f:Num→Num→Int):Prop:=∀(a b:Num) (W:World),Calls Tryz.prog F #[a.val,b.val] W fun e w'=>e=.returned (.int .i64 (f a b))∧Below W.heap.size W w'
def Jl (f:Num→Num→Int) (l:List (Num×Num)):Int:=l.foldl (fun m q=>mx m (f q.1 q.2)) 0
theorem zax (fn : Nat) (f : Num → Num → Int) (hf : zlJ fn f) (heF : ∀ (args : Array Value) (W : World), (callFunc fn args).run Tryz.prog W = .ok (.enter fn args) W) (n : Nat) (hn : n ≤ 4) (A0 : Option Addr) (c0 : Nat) (A1 : Option Addr) (m1 c1 : Nat) (B0 : Option Addr) (d0 : Nat) (B1 : Option Addr) (k1 d1 : Nat) (x p y s : List Num) (hp : zt n n p) (hs : zt n n s) (av al ah : Int) (ab : Bool) (bv bl bh : Int) (bb : Bool) (cv cl ch : Int) (cb : Bool) (dv dl dh : Int) (db : Bool) (w : World) (h0 : zk w A0 n c0 x) (h1 : zk w A1 m1 c1 p) (h2 : zk w B0 n d0 y) (h3 : zk w B1 k1 d1 s) :
  Calls Tryz.prog 161 #[.agg #[.slice A0 n c0, .int .i64 (n : Int), .int .i64 (n : Int), .slice A1 m1 c1, .slice B0 n d0, .int .i64 (n : Int), .int .i64 (n : Int), .slice B1 k1 d1, av, al, ah, ab, bv, bl, bh, bb, cv, cl, ch, cb, dv, dl, dh, db], .func (.func fn) #[] #[]] w fun e w' => e = .returned (.int .i64 (Jl f ((Zl x p).zip (Zk n y s)))) ∧ Below w.heap.size w w' := by
 have hu := Tryz.underlying76;have hu4 := Tryz.underlying71;have hn1 := hp.r1;have HF := za hf;have H0 := za h0;have H1 := za h1;have H2 := za h2;have H3 := za h3;clear h0 h1 h2 h3 hf;obtain ⟨ZS, hZS⟩ := zc ((Zl x p).zip (Zk n y s));have HZ := za hZS;rw [hZS];clear hZS;refine (callsIn_wide (n := 9)).1 ?_;refine callsIn_of_wp_marks Tryz.func161 rfl trivial ?_ rfl;simp only [Tryz.ntmps161, List.size_toArray, List.length_cons, List.length_nil, Nat.reduceAdd, Nat.reduceSub, Array.replicate_succ, Array.replicate_zero, List.push_toArray, List.append_toArray, List.nil_append, List.cons_append]
 gi_wp2_with (first | (refine QM qJ rfl 76 _ rfl _ rfl ?_; intro W9 hW9; have bx9 := At.of_new hW9) | (refine yu qJ rfl 76 _ rfl _ _ _ rfl (((bx9.alloc _).alloc _).load76 rfl) ?_))
 clear bx9;subst hW9;obtain ⟨W0, hW0⟩ := zc ((((w.alloc (.cells #[.slice A0 n c0, .int .i64 (n : Int), .int .i64 (n : Int), .slice A1 m1 c1, .slice B0 n d0, .int .i64 (n : Int), .int .i64 (n : Int), .slice B1 k1 d1, av, al, ah, ab, bv, bl, bh, bb, cv, cl, ch, cb, dv, dl, dh, db] 76)).alloc (.cells #[.func (.func fn) #[] #[]] 225)).alloc (.cells #[.int .i64 0] 3)));obtain ⟨bx, b0, hsz⟩ := Jq hW0;rw [hW0]
 clear hW0;have F := za (((((Off.start b0 hsz).argN b0 (H0.out)).argN b0 (H1.out)).argN b0 (H2.out)).argN b0 (H3.out));have BX := za bx;clear bx b0 hsz;obtain ⟨g, hg⟩ := zc (w.heap.size);rw [hg] at F BX
 try simp only [hg]
 simp only [World.size_alloc, hg];refine (zw 8 (zeu _ _)).mono ?_;rintro e w9 ⟨rfl, rfl⟩;obtain ⟨Xq, hXq⟩ := zc (W0.alloc (.cells #[.slice A0 n c0, .int .i64 (n : Int), .int .i64 (n : Int), .slice A1 m1 c1, .slice B0 n d0, .int .i64 (n : Int), .int .i64 (n : Int), .slice B1 k1 d1, av, al, ah, ab, bv, bl, bh, bb, cv, cl, ch, cb, dv, dl, dh, db] 76));obtain ⟨bx, b0, hsz⟩ := z6 hXq;rw [hXq];have lq := F.out.hiw
 replace F := za (F.out.gotA b0 bx );replace BX := ze BX b0;obtain ⟨q, hq⟩ := zc (W0.heap.size);rw [hq] at F lq
 try simp only [hq]
 clear bx b0 hsz hq hXq;gi_wp2_with fail;obtain ⟨V0, hV0⟩ := zc (Xq);rw [hV0] at F BX
 try rw [hV0]
 clear hV0;obtain ⟨S, hSd⟩ : ∃ S : Nat → Prop, S = fun k => k < V0.heap.size ∧ k ≠ g + 1 + 1 := ⟨_, rfl⟩
 have hS : ∀ k, S k → k < V0.heap.size := fun k h => by rw [hSd] at h; exact h.1
 have hSo : ¬ S (g + 1 + 1) := fun h => by rw [hSd] at h; exact h.2 rfl
 have hSi : ∀ k, k < V0.heap.size → k ≠ g + 1 + 1 → S k := fun k h1 h2 => by rw [hSd]; exact ⟨h1, h2⟩
 clear hSd;have hiw := F.out.hiw;have AF := za (BX.out.2.1);have M0 := za (BX.out.2.2.1);have XX := za (F.out.out.2);have BW := za (F.out.out.1.1.1.1.1);have hql := XX.out.lt;have hz20 : n + n * n ≤ 20 := by have := Nat.mul_le_mul hn hn; omega
 refine wpIn_rangeFunc_ownH (α := Num × Num) rfl (by decide) (gf := 183) (lb := #[.pointer (some ⟨q, 0, none⟩)]) rfl trivial (enters_of Tryz.func183 (by kernel_rfl) rfl)
  (zfX 8 (by decide) (g + 1 + 1) n hn A0 c0 A1 m1 c1 B0 d0 B1 k1 d1 x p y s hp hs av al ah ab bv bl bh bb cv cl ch cb dv dl dh db q V0 (by omega) XX.out F.out.out.1.1.1.1.2 F.out.out.1.1.1.2 F.out.out.1.1.2 F.out.out.1.2) (fun h k => h.trans k)
  (fun W l o o' hl ho hc _ => ⟨rfl, rfl, rfl, by simp, fun k o2 hk e c => (World.putObj_heap_other (fun el => by subst el; rw [ho] at e; cases e; rw [hc] at c; cases c)).trans e⟩) (Below.refl _ _) (fun _ => rfl)
  (fun pre W => At W (g + 1 + 1) 3 #[.int .i64 (Jl f pre)] ∧ KC (g + 1 + 1) V0 W ∧ KB S V0 W) (fun _ _ _ => False)
  (by
   rintro pre W W' row ⟨h, k, b⟩ hgr hr;exact ⟨qf h hgr (fun r e => (hr r e).2), k.grown hgr (fun r e => .inr (hr r e).2), YU b hS (Nat.le_refl _) hgr (fun r e => (hr r e).1)⟩)
  (fun _ _ _ _ _ hs _ _ => hs)
  ⟨M0.out, KC.refl _ _, KB.refl _ _⟩
  (fun x a' W => ∃ b1 b2, At W b1 71 #[x.1.v, x.1.l, x.1.h, x.1.bad] ∧ At W b2 71 #[x.2.v, x.2.l, x.2.h, x.2.bad] ∧
   a' = { tmps := #[.agg #[.slice A0 n c0, .int .i64 (n : Int), .int .i64 (n : Int), .slice A1 m1 c1, .slice B0 n d0, .int .i64 (n : Int), .int .i64 (n : Int), .slice B1 k1 d1, av, al, ah, ab, bv, bl, bh, bb, cv, cl, ch, cb, dv, dl, dh, db], .func (.func fn) #[] #[], .pointer (some ⟨g, 0, none⟩), .pointer (some ⟨g + 1, 0, none⟩), .int .i64 0, .pointer (some ⟨g + 1 + 1, 0, none⟩), .pointer (some ⟨b1, 0, none⟩), .pointer (some ⟨b2, 0, none⟩), .agg #[.slice A0 n c0, .int .i64 (n : Int), .int .i64 (n : Int), .slice A1 m1 c1, .slice B0 n d0, .int .i64 (n : Int), .int .i64 (n : Int), .slice B1 k1 d1, av, al, ah, ab, bv, bl, bh, bb, cv, cl, ch, cb, dv, dl, dh, db], ziX q, x.1.val, x.2.val, undef, undef, undef, undef, undef, undef, undef], defers := [] })
  (by
   rintro x a' u W W' row ⟨b1, b2, h1, h2, h3⟩ hgr hr;exact ⟨b1, b2, qf h1 hgr (fun r e => (hr r e).2), qf h2 hgr (fun r e => (hr r e).2), h3⟩)
  ?assign ?body ?done ?stop
 case assign =>
  rintro l pre ⟨⟨xv, xl, xh, xb⟩, ⟨yv, yl, yh, yb⟩⟩ W K ⟨h, k, b⟩ hK;dsimp only [zfu, Num.val] at hK ⊢;have H := za h;have HK := za hK;have HC := za k;have HB := za b;clear h hK k b;gi_wp2_with fail;have hb2 := za (show Below W.heap.size W ((W.alloc (.cells #[xv, xl, xh, xb] 71)).alloc (.cells #[yv, yl, yh, yb] 71)) from zg (zg (Below.refl _ _) _) _);have hk2 := KC.of_below (h := g + 1 + 1) hb2.out
  have hk3 : KB S W ((W.alloc (.cells #[xv, xl, xh, xb] 71)).alloc (.cells #[yv, yl, yh, yb] 71)) := (KB.refl S W).call (fun k hk => Nat.lt_of_lt_of_le (hS k hk) HB.out.size) hb2.out;exact HK.out _ _ (zB hb2.out) hk2 ⟨(H.out.alloc _).alloc _, HC.out.trans hk2, HB.out.trans hk3⟩ ⟨W.heap.size, W.heap.size + 1, (At.new _ _ _).alloc _, At.new' (by simp), rfl⟩
 case body =>
  rintro l pre ⟨x', y'⟩ a' W hl hr ⟨h, k, b⟩ ⟨b1, b2, h1, h2, rfl⟩ hlen;have HX := za h;have HC := za k;have HB := za b;have CC := za (fun W => HF.out x' y' W);obtain ⟨r, hrr⟩ := zc (f x' y');obtain ⟨m, hm⟩ := zc (Jl f pre);have HE := za (show mx m r = Jl f (pre ++ [(x', y')]) by unfold Jl at hm ⊢; rw [List.foldl_append, hm]; show _ = mx m (f x' y'); rw [hrr]);simp only [hrr] at CC;rw [hm] at HX;clear h k b hrr hm
  obtain ⟨xv, xl, xh, xb⟩ := x';obtain ⟨yv, yl, yh, yb⟩ := y';dsimp only [Num.val] at CC h1 h2 ⊢;have a0 := (HC.out.at_ (by omega) AF.out).cell 0;have m0 := HX.out.cell 0;obtain ⟨c0', c1', c2', c3'⟩ := h1.four;obtain ⟨d0', d1', d2', d3'⟩ := h2.four;gi_wp2_with fail;refine jV (by kernel_rfl) (by kernel_rfl) (by rintro ⟨a, w, h⟩; exact h) (jH [] [0, 1, 2, 3] [4, 5, 6] (.cons rfl (.cons rfl (.cons rfl (.cons rfl .nil)))) (.cons rfl (.cons rfl (.cons rfl .nil))) (by kernel_rfl) (fun c a d v w h => h) ?_)
  have ka0 := fun x => But.cell (G := []) a0 (by simp) x;have km0 := fun x => But.cell (G := []) m0 (by simp) x;have kc0 := fun x => But.cell (G := []) c0' (by simp) x;have kc1 := fun x => But.cell (G := []) c1' (by simp) x;have kc2 := fun x => But.cell (G := []) c2' (by simp) x;have kc3 := fun x => But.cell (G := []) c3' (by simp) x;have kd0 := fun x => But.cell (G := []) d0' (by simp) x;have kd1 := fun x => But.cell (G := []) d1' (by simp) x
  have kd2 := fun x => But.cell (G := []) d2' (by simp) x;have kd3 := fun x => But.cell (G := []) d3' (by simp) x
  repeat (go_big_quiet_step (fail))
  refine wpQuiet_nil ?_;clear ka0 km0 kc0 kc1 kc2 kc3 kd0 kd1 kd2 kd3;refine zp rfl (fun K hK => ?_);go_simp;refine (CC.out _).mono ?_;rintro e w1 ⟨rfl, hb1⟩;replace hb1 := qi hb1;refine hK _ _ (zI ((zC.refl _ _).call hb1)) ?_;clear hK K;refine zp rfl (fun K hK => ?_);go_simp;rw [show max m r = mx m r by unfold mx; split <;> omega];refine hK _ _ (zI ((zC.refl _ _).call hb1)) ?_;clear hK K;have e0 := (HX.out.below hb1).cell 0
  have z0 := (HX.out.below hb1).frozen 0;have M1 := za (HX.out.below hb1);have K1 := za (zB (B := V0.heap.size) hb1);have K2 := za (KC.of_below (h := g + 1 + 1) hb1);have K3 := za (((KB.refl S W).call (fun k hk => Nat.lt_of_lt_of_le (hS k hk) HB.out.size) hb1));clear hb1;refine zZ rfl (fun K hK => ?_);go_simp;refine hK _ _ ?_;clear hK K;exact ⟨K1.out.trans (zV _ _ _ _), K2.out.set _ _, by rw [← HE.out]; exact M1.out.set 0 _ rfl, (HC.out.trans K2.out).set _ _, (HB.out.trans K3.out).set hSo _ _⟩
 case done =>
  rintro D zs W hD hzz ⟨h, k, b⟩ hK;rw [hzz, HZ.out] at h;have HK := za hK;have e0 := h.cell 0;have HB := za b;have hD' := za hD;clear h k b hK hD hzz;gi_wp2_with fail;refine ⟨by simp, .inl ⟨_, _, rfl, run_takeDeferred HK.out, ?_⟩⟩;have hg0 : g ≤ V0.heap.size := by omega
  refine ⟨_, results_tmp rfl _ _ _, rfl, ?_⟩;exact qu (BW.out.trans (HB.out.below (fun k hk => hSi k (by omega) (by omega)))) (Nat.le_trans hg0 HB.out.size) (Nat.le_trans hg0 hD'.out) _
 case stop => exact fun D cc pre W _ _ h _ => h.elim
theorem zc2 (n:Nat) (hn:n≤4) (A0:Option Addr) (c0:Nat) (A1:Option Addr) (m1 c1:Nat) (B0:Option Addr) (d0:Nat) (B1:Option Addr) (k1 d1:Nat) (x p y s:List Num) (hp:zt n n p) (hs:zt n n s) (a b c d:Num) (w:World) (h0:zk w A0 n c0 x) (h1:zk w A1 m1 c1 p) (h2:zk w B0 n d0 y) (h3:zk w B1 k1 d1 s) :
  Calls Tryz.prog 108 #[j6 n A0 c0 A1 m1 c1 B0 d0 B1 k1 d1 a b c d] w fun e w'=>e=.returned (.bool (decide (0<Jl zcY ((Zl x p).zip (Zk n y s)))))∧Below w.heap.size w w':=by
 have W1:∀(W:World),zk W A0 n c0 x→zk W A1 m1 c1 p→zk W B0 n d0 y→zk W B1 k1 d1 s→Calls Tryz.prog 140 #[j6 n A0 c0 A1 m1 c1 B0 d0 B1 k1 d1 a b c d] W fun e w'=>e=.returned (.int .i64 (Jl zcY ((Zl x p).zip (Zk n y s))))∧Below W.heap.size W w':=by
  intro W q0 q1 q2 q3;obtain ⟨av,al,ah,ab⟩:=a;obtain ⟨bv,bl,bh,bb⟩:=b;obtain ⟨cv,cl,ch,cb⟩:=c;obtain ⟨dv,dl,dh,db⟩:=d;unfold j6;dsimp only;have C:=za (fun (V:World) (h0:zk V A0 n c0 x) (h1:zk V A1 m1 c1 p) (h2:zk V B0 n d0 y) (h3:zk V B1 k1 d1 s)=>zax 162 zcY zfx (enters_of Tryz.func162 (by kernel_rfl) rfl) n hn A0 c0 A1 m1 c1 B0 d0 B1 k1 d1 x p y s hp hs av al ah ab bv bl bh bb cv cl ch cb dv dl dh db V h0 h1 h2 h3)
  obtain ⟨r,hr⟩:=zc (Jl zcY ((Zl x p).zip (Zk n y s)));rw [hr] at C ⊢;clear hr;go_enter Tryz.func140,Tryz.ntmps140;go_wp2_with (first | (refine qX rfl 76 _ rfl _ rfl ?_;intro W9 hW9;have bx9:=At.of_new hW9;have hbz:=Zr hW9)|(refine qg rfl 76 _ rfl _ _ _ rfl (bx9.load76 rfl) ?_))
  refine (C.out _ (q0.below hbz) (q1.below hbz) (q2.below hbz) (q3.below hbz)).mono ?_;exact Xbx
 have C:=za (fun (V:World) (q0:zk V A0 n c0 x) (q1:zk V A1 m1 c1 p) (q2:zk V B0 n d0 y) (q3:zk V B1 k1 d1 s)=>W1 V q0 q1 q2 q3);clear W1;obtain ⟨r,hr⟩:=zc (Jl zcY ((Zl x p).zip (Zk n y s)));rw [hr] at C ⊢;clear hr;obtain ⟨av,al,ah,ab⟩:=a;obtain ⟨bv,bl,bh,bb⟩:=b;obtain ⟨cv,cl,ch,cb⟩:=c;obtain ⟨dv,dl,dh,db⟩:=d;unfold j6 at C ⊢;dsimp only at C ⊢;go_enter Tryz.func108,Tryz.ntmps108
 go_wp2_with (first | (refine qX rfl 76 _ rfl _ rfl ?_;intro W9 hW9;have bx9:=At.of_new hW9;have hbz:=Zr hW9)|(refine qg rfl 76 _ rfl _ _ _ rfl (bx9.load76 rfl) ?_))
 refine (C.out _ (h0.below hbz) (h1.below hbz) (h2.below hbz) (h3.below hbz)).mono ?_;exact Xbx
end
def Jk (cs:Array Value) (k:Nat):List Value→Array Value
 | []=>cs
 | v::vs=>Jk (cs.setIfInBounds k v) (k+1) vs
theorem JD {P:Program} {b o:Nat} {t:TypeId}:∀(vs:List Value) (i:Nat) (cs:Array Value) (w:World),At w b t cs→o+i+vs.length≤cs.size→vs.all Value.oneCell'=true →
  ∃W,(storeCells ⟨b,o,none⟩ vs i).run P w=.ok () W∧z7 b w W∧At W b t (Jk cs (o+i) vs)
 | [],i,cs,w,h,_,_=>⟨w,rfl,⟨rfl,rfl,rfl,rfl,fun _ _=>rfl⟩,h⟩
 | v::vs,i,cs,w,h,hl,h1=>by
  simp only [List.all_cons,Bool.and_eq_true] at h1;have hl':o+i+vs.length+1≤cs.size:=by simpa [Nat.add_assoc] using hl
  have hc:w.cell? ⟨b,o+i,none⟩=some (cs[o+i]'(by omega)):=by rw [h.cell,Array.getElem?_eq_getElem (by omega)]
  have hf:=h.frozen (o+i);obtain ⟨W,hr,ho,ha⟩:=JD (P:=P) vs (i+1) (cs.setIfInBounds (o+i) v) (w.setCell ⟨b,o+i,none⟩ v) (h.set (o+i) v rfl) (by rw [Array.size_setIfInBounds];show o+(i+1)+vs.length≤cs.size;omega) h1.2;refine ⟨W,?_,(z7.set b (o+i) w v).trans ho,ha⟩;unfold storeCells;rw [Sem.run_bind,zjW];have hs:(store ⟨b,o+i,none⟩ v).run P w=.ok () (w.setCell ⟨b,o+i,none⟩ v):=by rw [run_store P w _ v _ h1.1,hc,hf];rfl
  rw [hs];exact hr
theorem zdR {P:Program} {w:World} (t:TypeId) (b o:Nat) (vs cs cs':Array Value) (t':TypeId) (hS:(Go.sizeOf t).run P w=.ok vs.size w) (h:At w b t' cs) (hl:o+vs.size≤cs.size) (h1:vs.toList.all Value.oneCell'=true) (hcs:Jk cs o vs.toList=cs') :
  ∃W,(Instr.storeAt t (.pointer (some ⟨b,o,none⟩)) (.agg vs)).run P w=.ok () W∧z7 b w W∧At W b t' cs':=by
 obtain ⟨W,hr,ho,ha⟩:=JD (P:=P) (b:=b) (o:=o) vs.toList 0 cs w h (by simpa using hl) h1;refine ⟨W,?_,ho,by rw [Nat.add_zero,hcs] at ha;exact ha⟩;unfold Instr.storeAt storeVar;simp [Instr.sureAddr,hS,Value.cells,hr,Result.andThen]
theorem zfU (w:World):(Go.sizeOf 76).run Tryz.prog w=.ok 24 w:=by kernel_rfl
theorem vV {P:Program} {o:Oper} {a:Act} {K:Act→World→Prop} {Q:Exit→Act→World→Prop} {w:World} (t:TypeId) (p x:Operand) (ho:o.op=.store t p x) (b i:Nat) (vs cs cs':Array Value) (t':TypeId) (hp:a.eval p=.pointer (some ⟨b,i,none⟩)) (hx:a.eval x=.agg vs)
  (hS:(Go.sizeOf t).run P w=.ok vs.size w) (hA:At w b t' cs) (hl:i+vs.size≤cs.size) (h1:vs.toList.all Value.oneCell'=true) (hcs:Jk cs i vs.toList=cs') (h:∀W,z7 b w W→At W b t' cs'→K (a.put o.dst undef) W):o.wp P a w K Q:=by
 obtain ⟨W,hr,k1,k2⟩:=zdR (P:=P) t b i vs cs cs' t' hS hA hl h1 hcs;unfold Oper.wp execOp;simp only [ho,hp,hx,hr,Sem.run_bind,Sem.run_pure,Result.andThen_ok];exact h W k1 k2
theorem Zh {P:Program} {ops:Array Oper} {rest:List Oper} {o:Oper} {a:Act} {Q:Exit→Act→World→Prop} {w:World} (hgd:o.guard=none) (t:TypeId) (p x:Operand) (ho:o.op=.store t p x) (b i:Nat) (vs cs cs':Array Value) (t':TypeId) (hp:a.eval p=.pointer (some ⟨b,i,none⟩)) (hx:a.eval x=.agg vs)
  (hS:(Go.sizeOf t).run P w=.ok vs.size w) (hA:At w b t' cs) (hl:i+vs.size≤cs.size) (h1:vs.toList.all Value.oneCell'=true) (hcs:Jk cs i vs.toList=cs') (h:∀W,z7 b w W→At W b t' cs'→wpList P ops Q rest (a.put o.dst undef) W):wpList P ops Q (o::rest) a w :=
 wpList_plain hgd fun K hK=>vV t p x ho b i vs cs cs' t' hp hx hS hA hl h1 hcs fun W k1 k2=>hK _ _ (h W k1 k2)
theorem Qw:∀(vs:List Value) (cs:Array Value) (k i:Nat),k+vs.length≤cs.size→(Jk cs k vs)[i]?=if k≤i∧i<k+vs.length then vs[i-k]? else cs[i]?
 | [],cs,k,i,_=>by
  unfold Jk;rw [if_neg (by simp)]
 | v::vs,cs,k,i,h=>by
  have h':k+vs.length+1≤cs.size:=by simpa [Nat.add_assoc] using h
  unfold Jk;rw [Qw vs _ _ i (by rw [Array.size_setIfInBounds];omega)]
  by_cases h1:k+1≤i∧i<k+1+vs.length
  ·rw [if_pos h1,if_pos (by simp;omega)]
   obtain ⟨j,rfl⟩:∃j,i=k+1+j:=⟨i-(k+1),by omega⟩
   rw [show k+1+j-(k+1)=j by omega,show k+1+j-k=j+1 by omega];rfl
  ·rw [if_neg h1]
   by_cases hk:k=i
   ·subst hk
    rw [if_pos (by simp),Array.getElem?_setIfInBounds_self_of_lt (by omega),Nat.sub_self];rfl
   ·rw [if_neg (by simp;omega),Array.getElem?_setIfInBounds_ne hk]
theorem zf5 {vs cs:Array Value} (h:cs.size=vs.size):Jk cs 0 vs.toList=vs:=by
 apply Array.ext';apply List.ext_getElem?;intro i;rw [Array.getElem?_toList,Qw _ _ _ _ (by simp [h])]
 by_cases hi:i<vs.size
 ·rw [if_pos (by simp;omega),Nat.sub_zero]
 ·rw [if_neg (by simp;omega),Array.getElem?_eq_none (by omega),List.getElem?_eq_none (by simpa using hi)]
theorem yI {ops:Array Oper} {rest:List Oper} {o:Oper} {a:Act} {Q:Exit→Act→World→Prop} {w:World} (hgd:o.guard=none) (p x:Operand) (ho:o.op=.store 76 p x) (b:Nat) (vs cs:Array Value) (hp:a.eval p=.pointer (some ⟨b,0,none⟩)) (hx:a.eval x=.agg vs)
  (hA:At w b 76 cs) (hc:cs.size=24) (hv:vs.size=24) (h1:vs.toList.all Value.oneCell'=true) (h:∀W,z7 b w W→At W b 76 vs→wpList Tryz.prog ops Q rest (a.put o.dst undef) W):wpList Tryz.prog ops Q (o::rest) a w :=
 Zh hgd 76 p x ho b 0 vs cs vs 76 hp hx (by rw [hv];exact zfU w) hA (by omega) h1 (zf5 (by omega)) h
section
attribute [local go_sem] Oper.semAt_some
def qB (w:World) (B n:Nat) (x p y s:List Num) (a b c d:Num) (v:Value):Prop:=∃A0 c0 A1 m1 c1 B0 d0 B1 k1 d1,v=j6 n A0 c0 A1 m1 c1 B0 d0 B1 k1 d1 a b c d∧zk w A0 n c0 x∧zk w A1 m1 c1 p∧zk w B0 n d0 y∧zk w B1 k1 d1 s∧(∀q o,A0=some ⟨q,o,none⟩→B≤q)∧(∀q o,A1=some ⟨q,o,none⟩→B≤q)∧(∀q o,B0=some ⟨q,o,none⟩→B≤q)∧(∀q o,B1=some ⟨q,o,none⟩→B≤q)
theorem zhU (n:Nat) (hn:n≤4) (A0:Option Addr) (c0:Nat) (A1:Option Addr) (m1 c1:Nat) (B0:Option Addr) (d0:Nat) (B1:Option Addr) (k1 d1:Nat) (x p y s:List Num) (hm1:m1≤1000) (hk1:k1≤1000) (a b c d:Num) (w:World) (h0:zk w A0 n c0 x) (h1:zk w A1 m1 c1 p) (h2:zk w B0 n d0 y) (h3:zk w B1 k1 d1 s) :
  Calls Tryz.prog 52 #[j6 n A0 c0 A1 m1 c1 B0 d0 B1 k1 d1 a b c d] w fun e w'=>(∃v,e=.returned v∧qB w' w.heap.size n x p y s a b c d v)∧Below w.heap.size w w':=by
 have CL:=za (fun (A:Option Addr) (n c:Nat) (l:List Num) (hn:n≤1000) (W:World) (h:zk W A n c l)=>jU A n c l hn W h);have hu:=Tryz.underlying76;have hu1:=Tryz.underlying67;have hu2:=Tryz.underlying69;have hu3:=Tryz.underlying65;have hu4:=Tryz.underlying71;have H0:=za h0;have H1:=za h1;have H2:=za h2;have H3:=za h3;clear h0 h1 h2 h3;obtain ⟨av,al,ah,ab⟩:=a;obtain ⟨bv,bl,bh,bb⟩:=b
 obtain ⟨cv,cl,ch,cb⟩:=c;obtain ⟨dv,dl,dh,db⟩:=d;unfold qB j6;dsimp only at ⊢;go_enter Tryz.func52,Tryz.ntmps52;go_wp2_with fail;obtain ⟨W0,hW0⟩:=zc (((w.alloc (.cells #[.slice A0 n c0,.int .i64 (n:Int),.int .i64 (n:Int),.slice A1 m1 c1,.slice B0 n d0,.int .i64 (n:Int),.int .i64 (n:Int),.slice B1 k1 d1,av,al,ah,ab,bv,bl,bh,bb,cv,cl,ch,cb,dv,dl,dh,db] 76)).alloc (.cells #[.slice none 0 0,.int .i64 0,.int .i64 0,.slice none 0 0,.slice none 0 0,.int .i64 0,.int .i64 0,.slice none 0 0,.int .i64 0,.int .i64 0,.int .i64 0,.bool false,.int .i64 0,.int .i64 0,.int .i64 0,.bool false,.int .i64 0,.int .i64 0,.int .i64 0,.bool false,.int .i64 0,.int .i64 0,.int .i64 0,.bool false] 76)))
 obtain ⟨bx,b0,hsz⟩:=y7 hW0;rw [hW0];clear hW0;have F:=za (((((Off.start b0 hsz).argN b0 (H0.out)).argN b0 (H1.out)).argN b0 (H2.out)).argN b0 (H3.out));have BX:=za bx;clear bx b0 hsz;obtain ⟨g,hg⟩:=zc (w.heap.size);rw [hg] at F BX
 try simp only [hg]
 try go_wp2_with fail
 have x0:=(BX.out.1).cell 0;have x3:=(BX.out.1).cell 3;refine Jh 12 (by kernel_rfl) (by kernel_rfl) ?_;simp only [List.take_succ_cons,List.take_zero,List.drop_succ_cons,List.drop_zero];refine QI 11 9 (by kernel_rfl) ?_;simp only [List.modify_succ_cons,List.modify_zero_cons,vd,List.push_toArray,List.cons_append,List.nil_append];replace F:=za F.out.now;have hstart:=F.out.hiw;refine Zy [] (.rd (i:=0) rfl (.rd (i:=1) rfl (.rd (i:=2) rfl (.rd (i:=4) rfl (.rd (i:=5) rfl (.rd (i:=6) rfl (.rd (i:=7) rfl (.tl (i:=3) rfl (.rd (i:=9) rfl (.rd (i:=10) rfl (.tl (i:=8) rfl (.tl (i:=11) rfl .nil)))))))))))) (by kernel_rfl) (fun c a d v w h=>by cases d<;>exact h) (fun c a d v w h=>by cases d<;>exact h) (by simp) ?_
 have kx0:=fun x=>But.cell (G:=[]) x0 (by simp) x;have kx3:=fun x=>But.cell (G:=[]) x3 (by simp) x;iterate 7 (refine zf ?_;go_big_quiet_step (fail);refine wpQuiet_nil ?_)
 clear kx0 kx3;clear x0 x3;refine zm rfl (fun w1 hb K hK=>?_);replace hb:=qi hb;go_simp;replace F:=zd F hb;replace BX:=ze BX hb;clear hb;refine (CL.out _ _ _ _ (by omega) _ F.out.out.1.1.1.2).mono ?_;rintro e w2 ⟨Q0,q0,u0,rfl,ho,hb⟩;obtain rfl:n=q0:=by have:=zL ho;have:=H0.out.1;omega
 refine hK _ _ ((zC.refl _ _).call hb) ?_;clear hK K;have fV0:∀b o,Q0=some ⟨b,o,none⟩→g+2≤b:=fun b o e=>Nat.le_trans F.out.hiw (zY ho b o e);replace F:=zd F hb;replace BX:=ze BX hb;have V0:=za ho.nums;clear hb ho;iterate 2 (refine zf ?_;go_big_quiet_step (fail);refine wpQuiet_nil ?_)
 refine zm rfl (fun w3 hb K hK=>?_);go_simp;replace F:=zd F hb;replace BX:=ze BX hb;replace V0:=za (V0.out.below hb);clear hb;refine (CL.out _ _ _ _ hm1 _ F.out.out.1.1.2).mono ?_;rintro e w4 ⟨R0,r0,t0,rfl,ho,hb⟩;refine hK _ _ ((zC.refl _ _).call hb) ?_;clear hK K;have fU0:∀b o,R0=some ⟨b,o,none⟩→g+2≤b:=fun b o e=>Nat.le_trans F.out.hiw (zY ho b o e);replace F:=zd F hb
 replace BX:=ze BX hb;replace V0:=za (V0.out.below hb);have U0:=za ho.nums;clear hb ho;refine zJ rfl (fun w5 hb K hK=>?_);replace F:=zd F hb;replace BX:=ze BX hb;replace V0:=za (V0.out.below hb);replace U0:=za (U0.out.below hb);clear hb;have x0:=(BX.out.1).cell 0;have zx0:=(BX.out.1).frozen 0;go_simp;refine hK _ _ ?_;clear hK K x0 zx0;replace F:=za (F.out.plus (V0.out.off (fun b o e _=>.inr (fV0 b o e))))
 clear V0;replace F:=za (F.out.plus (U0.out.off (fun b o e _=>.inr (fU0 b o e))));clear U0;replace F:=za (F.out.set (g:=g) (.inl (by omega)) 0 (.slice Q0 n u0));replace BX:Hid (zP (w5.setCell ⟨g,0,none⟩ (.slice Q0 n u0)) g [(76,#[.slice Q0 n u0,.int .i64 (n:Int),.int .i64 (n:Int),.slice A1 m1 c1,.slice B0 n d0,.int .i64 (n:Int),.int .i64 (n:Int),.slice B1 k1 d1,av,al,ah,ab,bv,bl,bh,bb,cv,cl,ch,cb,dv,dl,dh,db]),(76,#[.slice none 0 0,.int .i64 0,.int .i64 0,.slice none 0 0,.slice none 0 0,.int .i64 0,.int .i64 0,.slice none 0 0,.int .i64 0,.int .i64 0,.int .i64 0,.bool false,.int .i64 0,.int .i64 0,.int .i64 0,.bool false,.int .i64 0,.int .i64 0,.int .i64 0,.bool false,.int .i64 0,.int .i64 0,.int .i64 0,.bool false])]):=za (BX.out.set 0 0 (.slice Q0 n u0))
 obtain ⟨w6,hw6⟩:=zc ((w5.setCell ⟨g,0,none⟩ (.slice Q0 n u0)));rw [hw6] at F BX  ⊢;clear hw6;have x3:=(BX.out.1).cell 3;have zx3:=(BX.out.1).frozen 3;simp only [Exit.then];go_wp2_with fail;clear x3 zx3;replace F:=za (F.out.set (g:=g) (.inl (by omega)) 3 (.slice R0 r0 t0));replace BX:Hid (zP (w6.setCell ⟨g,3,none⟩ (.slice R0 r0 t0)) g [(76,#[.slice Q0 n u0,.int .i64 (n:Int),.int .i64 (n:Int),.slice R0 r0 t0,.slice B0 n d0,.int .i64 (n:Int),.int .i64 (n:Int),.slice B1 k1 d1,av,al,ah,ab,bv,bl,bh,bb,cv,cl,ch,cb,dv,dl,dh,db]),(76,#[.slice none 0 0,.int .i64 0,.int .i64 0,.slice none 0 0,.slice none 0 0,.int .i64 0,.int .i64 0,.slice none 0 0,.int .i64 0,.int .i64 0,.int .i64 0,.bool false,.int .i64 0,.int .i64 0,.int .i64 0,.bool false,.int .i64 0,.int .i64 0,.int .i64 0,.bool false,.int .i64 0,.int .i64 0,.int .i64 0,.bool false])]):=za (BX.out.set 0 3 (.slice R0 r0 t0))
 obtain ⟨w7,hw7⟩:=zc ((w6.setCell ⟨g,3,none⟩ (.slice R0 r0 t0)));rw [hw7] at F BX  ⊢;clear hw7;have x4:=(BX.out.1).cell 4;have x7:=(BX.out.1).cell 7;refine Jh 12 (by kernel_rfl) (by kernel_rfl) ?_;simp only [List.take_succ_cons,List.take_zero,List.drop_succ_cons,List.drop_zero];refine QI 11 9 (by kernel_rfl) ?_;simp only [List.modify_succ_cons,List.modify_zero_cons,vd,List.push_toArray,List.cons_append,List.nil_append]
 replace F:=za F.out.now;have hstart:=F.out.hiw;refine Zy [] (.rd (i:=0) rfl (.rd (i:=1) rfl (.rd (i:=2) rfl (.rd (i:=4) rfl (.rd (i:=5) rfl (.rd (i:=6) rfl (.rd (i:=7) rfl (.tl (i:=3) rfl (.rd (i:=9) rfl (.rd (i:=10) rfl (.tl (i:=8) rfl (.tl (i:=11) rfl .nil)))))))))))) (by kernel_rfl) (fun c a d v w h=>by cases d<;>exact h) (fun c a d v w h=>by cases d<;>exact h) (by simp) ?_
 have kx4:=fun x=>But.cell (G:=[]) x4 (by simp) x;have kx7:=fun x=>But.cell (G:=[]) x7 (by simp) x;iterate 7 (refine zf ?_;go_big_quiet_step (fail);refine wpQuiet_nil ?_)
 clear kx4 kx7;clear x4 x7;refine zm rfl (fun w8 hb K hK=>?_);replace hb:=qi hb;go_simp;replace F:=zd F hb;replace BX:=ze BX hb;clear hb;refine (CL.out _ _ _ _ (by omega) _ F.out.out.1.1.1.2).mono ?_;rintro e w9 ⟨Q1,q1,u1,rfl,ho,hb⟩;obtain rfl:n=q1:=by have:=zL ho;have:=H2.out.1;omega
 refine hK _ _ ((zC.refl _ _).call hb) ?_;clear hK K;have fV1:∀b o,Q1=some ⟨b,o,none⟩→g+2≤b:=fun b o e=>Nat.le_trans F.out.hiw (zY ho b o e);replace F:=zd F hb;replace BX:=ze BX hb;have V1:=za ho.nums;clear hb ho;iterate 2 (refine zf ?_;go_big_quiet_step (fail);refine wpQuiet_nil ?_)
 refine zm rfl (fun w10 hb K hK=>?_);go_simp;replace F:=zd F hb;replace BX:=ze BX hb;replace V1:=za (V1.out.below hb);clear hb;refine (CL.out _ _ _ _ hk1 _ F.out.out.1.1.2).mono ?_;rintro e w11 ⟨R1,r1,t1,rfl,ho,hb⟩;refine hK _ _ ((zC.refl _ _).call hb) ?_;clear hK K;have fU1:∀b o,R1=some ⟨b,o,none⟩→g+2≤b:=fun b o e=>Nat.le_trans F.out.hiw (zY ho b o e);replace F:=zd F hb
 replace BX:=ze BX hb;replace V1:=za (V1.out.below hb);have U1:=za ho.nums;clear hb ho;refine zJ rfl (fun w12 hb K hK=>?_);replace F:=zd F hb;replace BX:=ze BX hb;replace V1:=za (V1.out.below hb);replace U1:=za (U1.out.below hb);clear hb;have x4:=(BX.out.1).cell 4;have zx4:=(BX.out.1).frozen 4;go_simp;refine hK _ _ ?_;clear hK K x4 zx4;replace F:=za (F.out.plus (V1.out.off (fun b o e _=>.inr (fV1 b o e))))
 clear V1;replace F:=za (F.out.plus (U1.out.off (fun b o e _=>.inr (fU1 b o e))));clear U1;replace F:=za (F.out.set (g:=g) (.inl (by omega)) 4 (.slice Q1 n u1));replace BX:Hid (zP (w12.setCell ⟨g,4,none⟩ (.slice Q1 n u1)) g [(76,#[.slice Q0 n u0,.int .i64 (n:Int),.int .i64 (n:Int),.slice R0 r0 t0,.slice Q1 n u1,.int .i64 (n:Int),.int .i64 (n:Int),.slice B1 k1 d1,av,al,ah,ab,bv,bl,bh,bb,cv,cl,ch,cb,dv,dl,dh,db]),(76,#[.slice none 0 0,.int .i64 0,.int .i64 0,.slice none 0 0,.slice none 0 0,.int .i64 0,.int .i64 0,.slice none 0 0,.int .i64 0,.int .i64 0,.int .i64 0,.bool false,.int .i64 0,.int .i64 0,.int .i64 0,.bool false,.int .i64 0,.int .i64 0,.int .i64 0,.bool false,.int .i64 0,.int .i64 0,.int .i64 0,.bool false])]):=za (BX.out.set 0 4 (.slice Q1 n u1))
 obtain ⟨w13,hw13⟩:=zc ((w12.setCell ⟨g,4,none⟩ (.slice Q1 n u1)));rw [hw13] at F BX  ⊢;clear hw13;have x7:=(BX.out.1).cell 7;have zx7:=(BX.out.1).frozen 7;replace F:=za (F.out.set (g:=g) (.inl (by omega)) 7 (.slice R1 r1 t1));replace BX:Hid (zP (w13.setCell ⟨g,7,none⟩ (.slice R1 r1 t1)) g [(76,#[.slice Q0 n u0,.int .i64 (n:Int),.int .i64 (n:Int),.slice R0 r0 t0,.slice Q1 n u1,.int .i64 (n:Int),.int .i64 (n:Int),.slice R1 r1 t1,av,al,ah,ab,bv,bl,bh,bb,cv,cl,ch,cb,dv,dl,dh,db]),(76,#[.slice none 0 0,.int .i64 0,.int .i64 0,.slice none 0 0,.slice none 0 0,.int .i64 0,.int .i64 0,.slice none 0 0,.int .i64 0,.int .i64 0,.int .i64 0,.bool false,.int .i64 0,.int .i64 0,.int .i64 0,.bool false,.int .i64 0,.int .i64 0,.int .i64 0,.bool false,.int .i64 0,.int .i64 0,.int .i64 0,.bool false])]):=za (BX.out.set 0 7 (.slice R1 r1 t1))
 have ld:=(BX.out.1).load76 rfl;have zz:At (w13.setCell ⟨g,7,none⟩ (.slice R1 r1 t1)) (g+1) 76 #[.slice none 0 0,.int .i64 0,.int .i64 0,.slice none 0 0,.slice none 0 0,.int .i64 0,.int .i64 0,.slice none 0 0,.int .i64 0,.int .i64 0,.int .i64 0,.bool false,.int .i64 0,.int .i64 0,.int .i64 0,.bool false,.int .i64 0,.int .i64 0,.int .i64 0,.bool false,.int .i64 0,.int .i64 0,.int .i64 0,.bool false]:=BX.out.2.1
 simp only [Exit.then];go_wp2_with (first | (show wpList _ _ _ (⟨_,.load 76 _,_,_,_,none⟩::_) _ _;refine qg rfl 76 _ rfl _ _ _ rfl ld ?_)|(show wpList _ _ _ (⟨_,.store 76 _ _,_,_,_,none⟩::_) _ _;refine yI rfl _ _ rfl (g+1) _ _ rfl rfl zz rfl rfl rfl ?_;intro WZ hoZ haZ))
 have F9:=F.out.sim (hoZ.sim (.inl (by omega)));have lo:∀b,g+2≤b→w.heap.size≤b:=fun b hb=>by omega
 exact bodyPost_ret (results_cell_row (P:=Tryz.prog) rfl _ _ (g+1) 76 _ (0,0) _ rfl haZ Tryz.underlying76 rfl (by kernel_rfl)) rfl ⟨⟨_,rfl,Q0,u0,R0,r0,t0,Q1,u1,R1,r1,t1,rfl,F9.out.1.1.1.2,F9.out.1.1.2,F9.out.1.2,F9.out.2,fun q o e=>by have:=fV0 q o e;omega,fun q o e=>by have:=fU0 q o e;omega,fun q o e=>by have:=fV1 q o e;omega,fun q o e=>by have:=fU1 q o e;omega⟩,by first | (rw [hg];exact F9.out.1.1.1.1.1.1.1.1)|exact F9.out.1.1.1.1.1.1.1.1⟩
end
end Go.Proofs.YtcoiklclbljjeaaGreatDoor.L
