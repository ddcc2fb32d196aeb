/- Lemmas of the card's proof. -/
import Derived.Test.YtcoiklclbljjeaaGreatDoorM34
set_option linter.unusedVariables false
set_option linter.unusedSimpArgs false
set_option maxRecDepth 100000
set_option maxHeartbeats 16000000
namespace Go.Proofs.YtcoiklclbljjeaaGreatDoor.L
open Go.RowKit
theorem Xbh {P : Prop} (h : P := by
 rw [List.mem_append, not_or];exact ⟨zN (fun e => by have := (World.ownsRow.lt O0.out g e.symm).1; omega), zN (fun e => by have := (World.ownsRow.lt O1.out g e.symm).1; omega)⟩) : P := h
section
attribute [local go_sem] Oper.semAt_some yI
theorem zaD {W w1 w2 w3 : World} {v0 v1 v2 : Value} {xs ys : List Num} (hB : Below W.heap.size W w1) (O0 : zF w1 W.heap.size v0 xs) (O1 : zF w1 W.heap.size v1 ys) (D : ∀ q, v0.ownBlock = some q → v1.ownBlock ≠ some q)
  (hb : Below w1.heap.size w1 w2) (hgr : w2.grownBy w3 v0.ownBlock) (hat : v2.ownBlock = v0.ownBlock ∨ v2.ownBlock = some w2.heap.size) :
  Below W.heap.size W w3 ∧ zF w3 W.heap.size v1 ys ∧ ∀ q, v2.ownBlock = some q → v1.ownBlock ≠ some q := by
 have h12 : Below W.heap.size W w2 := hB.trans (hb.mono hB.size);refine ⟨h12.grown hgr h12.size (fun k e => (World.ownsRow.lt O0 k e).1), ?_, ?_⟩
 ·refine (O1.below hb).kept hgr ?_
  cases e : v1.ownBlock with
  | none => exact .inl rfl
  | some q => exact .inr fun e2 => D q e2.symm e
 ·intro q e e1
  rcases hat with h | h
  ·exact D q (h.symm.trans e) e1
  ·have := (World.ownsRow.lt O1 q e1).2
   rw [h] at e;injection e with e;have := hb.size;omega
theorem zhO (nf : Nat) (hf1 : 1 ≤ nf) (h : Nat) (n : Nat) (hn : n ≤ 4) (A0 : Option Addr) (c0 : Nat) (A1 : Option Addr) (m1 c1 : Nat) (B0 : Option Addr) (d0 : Nat) (B1 : Option Addr) (k1 d1 : Nat) (x p y s : List Num) (hp : zr n n p) (hs : zr n n s) (av al ah : Int) (ab : Bool) (bv bl bh : Int) (bb : Bool) (cv cl ch : Int) (cb : Bool) (dv dl dh : Int) (db : Bool) (l g : Nat) (J Jx : List (Num × Num) → World → Prop)
  (hY : ∀ pre x W, J pre W → pre.length < n + n * n → YieldAt Fence.wide (nf - 1) Tryz.prog l (zeA x) W fun e W' =>
   (e = .returned (.bool true) ∧ J (pre ++ [x]) W' ∧ KC h W W') ∨ (e = .returned (.bool false) ∧ Jx (pre ++ [x]) W'))
  (hJ : ∀ pre A B, J pre A → Below A.heap.size A B → J pre B) (W : World) (hh : h < W.heap.size) (hg : At W g 76 #[.slice A0 n c0, .int .i64 (n : Int), .int .i64 (n : Int), .slice A1 m1 c1, .slice B0 n d0, .int .i64 (n : Int), .int .i64 (n : Int), .slice B1 k1 d1, av, al, ah, ab, bv, bl, bh, bb, cv, cl, ch, cb, dv, dl, dh, db]) (h0 : zk W A0 n c0 x) (h1 : zk W A1 m1 c1 p) (h2 : zk W B0 n d0 y) (h3 : zk W B1 k1 d1 s) (hJ0 : J [] W) :
  CallsIn Fence.wide nf Tryz.prog 183 #[.func (.yield l) #[] #[], .pointer (some ⟨g, 0, none⟩)] W fun e W' => (∃ v, e = .returned v) ∧
   ((∃ zs, zs = (vT x p).zip (vS n y s) ∧ J zs W') ∨ (∃ pre, pre <+: (vT x p).zip (vS n y s) ∧ Jx pre W')) := by
 have hn1 := hp.r1;have hu := Tryz.underlying76;have hu1 := Tryz.underlying67;have hu2 := Tryz.underlying69;have hu3 := Tryz.underlying65;have hu4 := Tryz.underlying71;have i0 : ∀ w : World, (Instr.index 242 (.agg #[.func (.func 22) #[] #[], .func (.func 23) #[] #[]]) (.int .i64 0)).run Tryz.prog w = .ok (.func (.func 22) #[] #[]) w := fun _ => by kernel_rfl
 have i1 : ∀ w : World, (Instr.index 242 (.agg #[.func (.func 22) #[] #[], .func (.func 23) #[] #[]]) (.int .i64 1)).run Tryz.prog w = .ok (.func (.func 23) #[] #[]) w := fun _ => by kernel_rfl
 have RI := za (fun W => jf n hn A0 c0 A1 m1 c1 B0 d0 B1 k1 d1 p s hp hs h1.1 h3.1 ⟨av, al, ah, ab⟩ ⟨bv, bl, bh, bb⟩ ⟨cv, cl, ch, cb⟩ ⟨dv, dl, dh, db⟩ W);have C0 := za (Qu n hn A0 c0 A1 m1 c1 B0 d0 B1 k1 d1 x p y s hp hs ⟨av, al, ah, ab⟩ ⟨bv, bl, bh, bb⟩ ⟨cv, cl, ch, cb⟩ ⟨dv, dl, dh, db⟩);have C1 := za (YR n hn A0 c0 A1 m1 c1 B0 d0 B1 k1 d1 x p y s hp hs ⟨av, al, ah, ab⟩ ⟨bv, bl, bh, bb⟩ ⟨cv, cl, ch, cb⟩ ⟨dv, dl, dh, db⟩)
 have C2 := za (YS n hn A0 c0 A1 m1 c1 B0 d0 B1 k1 d1 x p y s hp hs ⟨av, al, ah, ab⟩ ⟨bv, bl, bh, bb⟩ ⟨cv, cl, ch, cb⟩ ⟨dv, dl, dh, db⟩);have C3 := za (zdd n hn A0 c0 A1 m1 c1 B0 d0 B1 k1 d1 x p y s hp hs ⟨av, al, ah, ab⟩ ⟨bv, bl, bh, bb⟩ ⟨cv, cl, ch, cb⟩ ⟨dv, dl, dh, db⟩);have H0 := za h0;have H1 := za h1;have H2 := za h2;have H3 := za h3;have HY := za hY;have HJ := za hJ;have HJ0 := za hJ0;have HG := za hg
 clear h0 h1 h2 h3 hY hJ hJ0 hg;unfold j9 at RI C0 C1 C2 C3;dsimp only at RI C0 C1 C2 C3;obtain ⟨ZS, hZS⟩ := zc ((vT x p).zip (vS n y s));rw [hZS];have bx := HG.out;refine callsIn_of_wp Tryz.func183 rfl trivial ?_ rfl;simp only [Tryz.ntmps183, List.size_toArray, List.length_cons, List.length_nil, Nat.reduceAdd, Nat.reduceSub, Array.replicate_succ, Array.replicate_zero, List.push_toArray, List.append_toArray, List.nil_append, List.cons_append]
 gi_wp2_with (refine j6 qW rfl 76 _ rfl _ _ _ rfl (bx.load76 rfl) ?_)
 refine (zC _ (RI.out _)).mono ?_;rintro e w1 ⟨rfl, hb1⟩;have hB1 := za hb1;clear hb1;gi_wp2_with fail;clear bx;refine wpIn_loop_rounds 3 ?_;rw [roundsIn_succ];gi_wp2_with fail;have lA0 := H0.out.1;have lA1 := H2.out.1;have lP := H1.out.1;have lS := H3.out.1;have lp := hp.len;have ls := hs.len;have h44 : n * n ≤ 4 * 4 := Nat.mul_le_mul hn hn;have hnn : 1 ≤ n * n := Nat.mul_pos hn1 hn1;have lsq : (j2 n s).length = n * n := hs.square.len
 have O0 : Hid (zF w1 W.heap.size (.slice none 0 0) []) := za (zF.nil_ _ _);have O1 : Hid (zF w1 W.heap.size (.slice none 0 0) []) := za (zF.nil_ _ _);have D : ∀ q, (Value.slice none 0 0).ownBlock = some q → (Value.slice none 0 0).ownBlock ≠ some q := fun q e => by cases e
 have hgs := (Array.getElem?_eq_some_iff.1 HG.out).1;have HB := hB1;clear hB1;refine QY (by kernel_rfl) (jw ((Value.ownBlock (.slice none 0 0)).toList ++ (Value.ownBlock (.slice none 0 0)).toList) [0, 1, 2, 5, 6, 7] [3, 4, 8, 9, 10, 11] (.cons rfl (.cons rfl (.cons rfl (.cons rfl (.cons rfl (.cons rfl .nil)))))) (.cons rfl (.cons rfl (.cons rfl (.cons rfl (.cons rfl (.cons rfl .nil)))))) (by kernel_rfl) (fun c a d v w h => by cases d <;> exact h) ?_)
 have bx := HG.out.below HB.out
 have gG : g ∉ (Value.ownBlock (.slice none 0 0)).toList ++ (Value.ownBlock (.slice none 0 0)).toList := by
  exact Xbh
 iterate 2 (go_big_quiet_step (fail);go_big_quiet_step (fail);refine qI 76 _ rfl _ _ _ rfl rfl (fun w' hw' => by obtain ⟨xx, rfl⟩ := hw'; exact (bx.but gG xx).load76 rfl) ?_;go_simp)
 refine wpQuiet_nil ?_;clear bx gG;refine zp rfl (fun K hK => ?_);go_simp;refine (C0.out _ (H0.out.below HB.out).drew (H1.out.below HB.out).drew (H2.out.below HB.out).drew (H3.out.below HB.out).drew).mono ?_;rintro e wa0 ⟨Q, q, u, rfl, ho, hb⟩;replace hb := qe hb;refine hK _ _ (zI ((zB.refl _ _).call hb)) ?_;clear hK K;have hq := ho.nums.1;refine zp rfl (fun K hK => ?_);refine js (.tmp 15) (.tmp 18) rfl W.heap.size (.slice none 0 0) [] x _ q u rfl (O0.out.below hb) rfl (by omega) ho.nums (by first | omega | (simp; omega)) (Nat.le_trans HB.out.size hb.size) ?_
 intro r0 wb0 ho2 hgr hat;obtain ⟨k1, k2, k3⟩ := zaD HB.out O0.out O1.out D hb hgr hat;refine hK _ _ (zI (((zB.refl _ _).call hb).grown hgr (fun k e => .inl (List.mem_append.2 (.inl (qK k e)))))) ?_;clear hK K;have HX := za (((zB.refl w1 ((Value.ownBlock (.slice none 0 0)).toList ++ (Value.ownBlock (.slice none 0 0)).toList)).call hb).grown hgr (fun k e => .inl (List.mem_append.2 (.inl (qK k e)))))
 replace HB := za k1;replace O1 := za k2;replace O0 := za ho2;replace D := fun q e1 e2 => k3 q e2 e1;clear k1 k2 k3 ho ho2 hgr hat hb hq;refine zp rfl (fun K hK => ?_);go_simp;refine (C1.out _ (H0.out.below HB.out) (H1.out.below HB.out) (H2.out.below HB.out) (H3.out.below HB.out)).mono ?_;rintro e wc0 ⟨Q, q, u, rfl, ho, hb⟩;refine hK _ _ (zI (HX.out.call hb)) ?_;clear hK K;have hq := ho.nums.1;refine zp rfl (fun K hK => ?_)
 refine js (.tmp 20) (.tmp 23) rfl W.heap.size (.slice none 0 0) [] y _ q u rfl (O1.out.below hb) rfl (by omega) ho.nums (by first | omega | (simp; omega)) (Nat.le_trans HB.out.size hb.size) ?_;intro s0 wd0 ho2 hgr hat;obtain ⟨k1, k2, k3⟩ := zaD HB.out O1.out O0.out D hb hgr hat;refine hK _ _ (zI ((HX.out.call hb).grown hgr (fun k e => .inl (List.mem_append.2 (.inr (qK k e)))))) ?_;clear hK K;have HZ := za ((HX.out.call hb).grown hgr (fun k e => .inl (List.mem_append.2 (.inr (qK k e)))))
 replace HB := za k1;replace O0 := za k2;replace O1 := za ho2;replace D := fun q e1 e2 => k3 q e2 e1;clear k1 k2 k3 ho ho2 hgr hat hb hq;clear HX;refine zp rfl (fun K hK => ?_);go_simp;refine hK _ _ (zI HZ.out) ?_;clear hK K;refine zX rfl (fun K hK => ?_);go_simp;refine hK _ _ ?_;clear hK K;clear HZ;obtain ⟨a0, b0, c0', rfl⟩ := zO O0.out;obtain ⟨e0, f0, g0, rfl⟩ := zO O1.out;rw [List.nil_append] at O0 O1
 gi_wp2_with fail;rw [roundsIn_succ];gi_wp2_with fail;refine QY (by kernel_rfl) (jw ((Value.ownBlock (.slice a0 b0 c0')).toList ++ (Value.ownBlock (.slice e0 f0 g0)).toList) [0, 1, 2, 5, 6, 7] [3, 4, 8, 9, 10, 11] (.cons rfl (.cons rfl (.cons rfl (.cons rfl (.cons rfl (.cons rfl .nil)))))) (.cons rfl (.cons rfl (.cons rfl (.cons rfl (.cons rfl (.cons rfl .nil)))))) (by kernel_rfl) (fun c a d v w h => by cases d <;> exact h) ?_)
 have bx := HG.out.below HB.out
 have gG : g ∉ (Value.ownBlock (.slice a0 b0 c0')).toList ++ (Value.ownBlock (.slice e0 f0 g0)).toList := by
  exact Xbh
 iterate 2 (go_big_quiet_step (fail);go_big_quiet_step (fail);refine qI 76 _ rfl _ _ _ rfl rfl (fun w' hw' => by obtain ⟨xx, rfl⟩ := hw'; exact (bx.but gG xx).load76 rfl) ?_;go_simp)
 refine wpQuiet_nil ?_;clear bx gG;refine zp rfl (fun K hK => ?_);go_simp;refine (C2.out _ (H0.out.below HB.out).drew (H1.out.below HB.out).drew (H2.out.below HB.out).drew (H3.out.below HB.out).drew).mono ?_;rintro e wa1 ⟨Q, q, u, rfl, ho, hb⟩;replace hb := qe hb;refine hK _ _ (zI ((zB.refl _ _).call hb)) ?_;clear hK K;have hq := ho.1;refine zp rfl (fun K hK => ?_);refine js (.tmp 15) (.tmp 18) rfl W.heap.size (.slice a0 b0 c0') x p _ q u rfl (O0.out.below hb) rfl (by omega) ho (by first | omega | (simp; omega)) (Nat.le_trans HB.out.size hb.size) ?_
 intro r1 wb1 ho2 hgr hat;obtain ⟨k1, k2, k3⟩ := zaD HB.out O0.out O1.out D hb hgr hat;refine hK _ _ (zI (((zB.refl _ _).call hb).grown hgr (fun k e => .inl (List.mem_append.2 (.inl (qK k e)))))) ?_;clear hK K;have HX := za (((zB.refl wd0 ((Value.ownBlock (.slice a0 b0 c0')).toList ++ (Value.ownBlock (.slice e0 f0 g0)).toList)).call hb).grown hgr (fun k e => .inl (List.mem_append.2 (.inl (qK k e)))))
 replace HB := za k1;replace O1 := za k2;replace O0 := za ho2;replace D := fun q e1 e2 => k3 q e2 e1;clear k1 k2 k3 ho ho2 hgr hat hb hq;refine zp rfl (fun K hK => ?_);go_simp;refine (C3.out _ (H0.out.below HB.out) (H1.out.below HB.out) (H2.out.below HB.out) (H3.out.below HB.out)).mono ?_;rintro e wc1 ⟨Q, q, u, rfl, ho, hb⟩;refine hK _ _ (zI (HX.out.call hb)) ?_;clear hK K;have hq := ho.1;refine zp rfl (fun K hK => ?_)
 refine js (.tmp 20) (.tmp 23) rfl W.heap.size (.slice e0 f0 g0) y (j2 n s) _ q u rfl (O1.out.below hb) rfl (by omega) ho (by first | omega | (simp; omega)) (Nat.le_trans HB.out.size hb.size) ?_;intro s1 wd1 ho2 hgr hat;obtain ⟨k1, k2, k3⟩ := zaD HB.out O1.out O0.out D hb hgr hat;refine hK _ _ (zI ((HX.out.call hb).grown hgr (fun k e => .inl (List.mem_append.2 (.inr (qK k e)))))) ?_;clear hK K;have HZ := za ((HX.out.call hb).grown hgr (fun k e => .inl (List.mem_append.2 (.inr (qK k e)))))
 replace HB := za k1;replace O0 := za k2;replace O1 := za ho2;replace D := fun q e1 e2 => k3 q e2 e1;clear k1 k2 k3 ho ho2 hgr hat hb hq;clear HX;refine zp rfl (fun K hK => ?_);go_simp;refine hK _ _ (zI HZ.out) ?_;clear hK K;refine zX rfl (fun K hK => ?_);go_simp;refine hK _ _ ?_;clear hK K;clear HZ;obtain ⟨a1, b1, c1', rfl⟩ := zO O0.out;obtain ⟨e1, f1, g1, rfl⟩ := zO O1.out;obtain ⟨M, hM⟩ := zc (n + n * n)
 obtain rfl : M = b1 := by have := zL O0.out; rw [List.length_append, lA0, lP] at this; omega
 obtain rfl : M = f1 := by have := zL O1.out; rw [List.length_append, lA1, lsq] at this; omega
 gi_wp2_with fail;rw [roundsIn_succ];gi_wp2_with fail;have hM20 : M ≤ 20 := by omega
 have lz : ((vT x p).zip (vS n y s)).length = M := by unfold vT vS; rw [List.length_zip, List.length_append, List.length_append, lA0, lP, lA1, lsq]; omega
 obtain ⟨xs, hxs⟩ := zc (x ++ p);obtain ⟨ys, hys⟩ := zc (y ++ j2 n s);rw [hxs] at O0;rw [hys] at O1;have ez : ZS = xs.zip ys := by rw [← hZS]; unfold vT vS; rw [hxs, hys]
 rw [hZS] at lz;have HEZ := za ez;have NX := fun w' (k : KC h wd1 w') => k.nums O0.out.nums (fun b o e _ => by have := zU O0.out b o e; omega);have NY := fun w' (k : KC h wd1 w') => k.nums O1.out.nums (fun b o e _ => by have := zU O1.out b o e; omega);have HX := za NX;have HZ := za NY;have J1 := za (HJ.out _ _ _ HJ0.out HB.out);have hLZ := za lz;rw [hM] at HY;clear NX NY ez hZS hxs hys lA0 lA1 lP lS lp ls h44 hnn lsq C0 C1 C2 C3 RI H0 H1 H2 H3 HJ0 HG D O0 O1 lz hM
 gi_loopw [7, 31] (fun _ i wr => ∃ k : Nat, k ≤ M ∧ i = .int .i64 k ∧ Hid (J (ZS.take k) wr) ∧ Hid (KC h wd1 wr)) (fun _ i _ => M - (intOf i).toNat)
 case atStart => exact ⟨0, by omega, rfl, J1, za (KC.refl _ _)⟩
 case round =>
  obtain ⟨k, hk, rfl, JK, KB⟩ := hrel
  by_cases hlt : k < M
  ·obtain ⟨b, o, u, rfl, hxk, x0, x1, x2, x3⟩ := (HX.out wr KB.out).at_ (k := k) (by omega)
   obtain ⟨b', o', v, rfl, hyk, y0, y1, y2, y3⟩ := (HZ.out wr KB.out).at_ (k := k) (by omega);have hlen : (ZS.take k).length < M := by rw [List.length_take, hLZ.out]; omega
   obtain ⟨fn, tmps, assign, body, hyy, hR⟩ := HY.out _ (u, v) wr.drew (HJ.out _ _ _ JK.out ⟨rfl, rfl, rfl, Nat.le_refl _, fun _ _ => rfl⟩) hlen;have HT := za (show ZS.take (k + 1) = ZS.take k ++ [(u, v)] by rw [HEZ.out]; exact zdM hxk hyk);clear hxk hyk hlen;obtain ⟨uv, ul, uh, ub⟩ := u;obtain ⟨vv, vl, vh, vb⟩ := v;dsimp only [zeA, Num.val] at hyy x0 x1 x2 x3 y0 y1 y2 y3;gi_wp2_with fail;refine Qo qW 9 (by kernel_rfl) (by kernel_rfl) (by kernel_rfl) ?_
   simp only [List.take_succ_cons, List.take_zero, List.drop_succ_cons, List.drop_zero]
   repeat (go_big_quiet_step (fail))
   refine wpQuiet_nil ?_;gi_wp2_with fail;refine hR.mono ?_;rintro e W3 (⟨rfl, hJ3, hk3⟩ | ⟨rfl, hJx3⟩)
   ·have HJ3 := za (show J (ZS.take (k + 1)) W3 by rw [HT.out]; exact hJ3)
    have HB3 := za (KB.out.drew.trans hk3);clear hJ3 hk3;gi_wp2_with fail;exact XbA
   ·have HJ3 := za (show Jx (ZS.take (k + 1)) W3 by rw [HT.out]; exact hJx3)
    clear hJx3;gi_wp2_with fail;exact XaX
  ·have e : ZS.take k = ZS := List.take_of_length_le (by rw [hLZ.out]; omega)
   rw [e] at JK;clear e;gi_wp2_with fail
   go_end0
   exact ⟨⟨_, rfl⟩, .inl ⟨_, rfl, JK.out⟩⟩
end
theorem Xbr {P : Prop} (h : P := by
 rintro e w1 ⟨rfl, hb⟩;have hB := hbz.trans (hb.mono hbz.size);go_wp2_with fail;go_ret;exact ⟨rfl, hB⟩) : P := h
section
attribute [local go_sem] Oper.semAt_some yI
theorem Y7 {w W : World} {o : Obj} (h : w.alloc o = W) : Below w.heap.size w W := by rw [← h]; exact zg (Below.refl _ _) o
theorem ze3 (nf : Nat) (hf1 : 1 ≤ nf) (h : Nat) (n : Nat) (hn : n ≤ 4) (A0 : Option Addr) (c0 : Nat) (A1 : Option Addr) (m1 c1 : Nat) (B0 : Option Addr) (d0 : Nat) (B1 : Option Addr) (k1 d1 : Nat) (x p y s : List Num) (hp : zr n n p) (hs : zr n n s) (av al ah : Int) (ab : Bool) (bv bl bh : Int) (bb : Bool) (cv cl ch : Int) (cb : Bool) (dv dl dh : Int) (db : Bool) (g : Nat) (w : World) (hh : h < w.heap.size) (hg : At w g 76 #[.slice A0 n c0, .int .i64 (n : Int), .int .i64 (n : Int), .slice A1 m1 c1, .slice B0 n d0, .int .i64 (n : Int), .int .i64 (n : Int), .slice B1 k1 d1, av, al, ah, ab, bv, bl, bh, bb, cv, cl, ch, cb, dv, dl, dh, db]) (h0 : zk w A0 n c0 x) (h1 : zk w A1 m1 c1 p) (h2 : zk w B0 n d0 y) (h3 : zk w B1 k1 d1 s) :
  SeqStopsK Fence.wide nf Tryz.prog 183 #[.pointer (some ⟨g, 0, none⟩)] zeA (KC h) (fun zs => zs = (vT x p).zip (vS n y s)) (fun pre => pre <+: (vT x p).zip (vS n y s)) (n + n * n) w := fun l J Jx W hW hJ hJx hY j0 =>
 zhO nf hf1 h n hn A0 c0 A1 m1 c1 B0 d0 B1 k1 d1 x p y s hp hs av al ah ab bv bl bh bb cv cl ch cb dv dl dh db l g J Jx hY (fun pre A B hj hb => hJ pre A B none hj (zQ hb) (fun r e => by cases e)) W (Nat.lt_of_lt_of_le hh hW.size) (hg.below hW) (h0.below hW) (h1.below hW) (h2.below hW) (h3.below hW) j0
def zky (F : Nat) (f : Num → Num → Int) : Prop := ∀ (a b : Num) (W : World), Calls Tryz.prog F #[a.val, b.val] W fun e w' => e = .returned (.int .i64 (f a b)) ∧ Below W.heap.size W w'
def QH (f : Num → Num → Int) (l : List (Num × Num)) : Int := l.foldl (fun m q => mx m (f q.1 q.2)) 0
theorem VG (fn : Nat) (f : Num → Num → Int) (hf : zky fn f) (heF : ∀ (args : Array Value) (W : World), (callFunc fn args).run Tryz.prog W = .ok (.enter fn args) W) (n : Nat) (hn : n ≤ 4) (A0 : Option Addr) (c0 : Nat) (A1 : Option Addr) (m1 c1 : Nat) (B0 : Option Addr) (d0 : Nat) (B1 : Option Addr) (k1 d1 : Nat) (x p y s : List Num) (hp : zr n n p) (hs : zr n n s) (av al ah : Int) (ab : Bool) (bv bl bh : Int) (bb : Bool) (cv cl ch : Int) (cb : Bool) (dv dl dh : Int) (db : Bool) (w : World) (h0 : zk w A0 n c0 x) (h1 : zk w A1 m1 c1 p) (h2 : zk w B0 n d0 y) (h3 : zk w B1 k1 d1 s) :
  Calls Tryz.prog 161 #[.agg #[.slice A0 n c0, .int .i64 (n : Int), .int .i64 (n : Int), .slice A1 m1 c1, .slice B0 n d0, .int .i64 (n : Int), .int .i64 (n : Int), .slice B1 k1 d1, av, al, ah, ab, bv, bl, bh, bb, cv, cl, ch, cb, dv, dl, dh, db], .func (.func fn) #[] #[]] w fun e w' => e = .returned (.int .i64 (QH f ((vT x p).zip (vS n y s)))) ∧ Below w.heap.size w w' := by
 have hu := Tryz.underlying76;have hu4 := Tryz.underlying71;have hn1 := hp.r1;have HF := za hf;have H0 := za h0;have H1 := za h1;have H2 := za h2;have H3 := za h3;clear h0 h1 h2 h3 hf;obtain ⟨ZS, hZS⟩ := zc ((vT x p).zip (vS n y s));have HZ := za hZS;rw [hZS];clear hZS;refine (callsIn_wide (n := 9)).1 ?_;refine callsIn_of_wp_marks Tryz.func161 rfl trivial ?_ rfl;simp only [Tryz.ntmps161, List.size_toArray, List.length_cons, List.length_nil, Nat.reduceAdd, Nat.reduceSub, Array.replicate_succ, Array.replicate_zero, List.push_toArray, List.append_toArray, List.nil_append, List.cons_append]
 gi_wp2_with (first | (refine Qi qW rfl 76 _ rfl _ rfl ?_; intro W9 hW9; have bx9 := At.of_new hW9) | (refine j6 qW rfl 76 _ rfl _ _ _ rfl (((bx9.alloc _).alloc _).load76 rfl) ?_))
 clear bx9;subst hW9;obtain ⟨W0, hW0⟩ := zc ((((w.alloc (.cells #[.slice A0 n c0, .int .i64 (n : Int), .int .i64 (n : Int), .slice A1 m1 c1, .slice B0 n d0, .int .i64 (n : Int), .int .i64 (n : Int), .slice B1 k1 d1, av, al, ah, ab, bv, bl, bh, bb, cv, cl, ch, cb, dv, dl, dh, db] 76)).alloc (.cells #[.func (.func fn) #[] #[]] 225)).alloc (.cells #[.int .i64 0] 3)));obtain ⟨bx, b0, hsz⟩ := QL hW0;rw [hW0]
 clear hW0;have F := za (((((Off.start b0 hsz).argN b0 (H0.out)).argN b0 (H1.out)).argN b0 (H2.out)).argN b0 (H3.out));have BX := za bx;clear bx b0 hsz;obtain ⟨g, hg⟩ := zc (w.heap.size);rw [hg] at F BX
 try simp only [hg]
 simp only [World.size_alloc, hg];refine (zC 8 (zdx _ _)).mono ?_;rintro e w9 ⟨rfl, rfl⟩;obtain ⟨Xq, hXq⟩ := zc (W0.alloc (.cells #[.slice A0 n c0, .int .i64 (n : Int), .int .i64 (n : Int), .slice A1 m1 c1, .slice B0 n d0, .int .i64 (n : Int), .int .i64 (n : Int), .slice B1 k1 d1, av, al, ah, ab, bv, bl, bh, bb, cv, cl, ch, cb, dv, dl, dh, db] 76));obtain ⟨bx, b0, hsz⟩ := zV hXq;rw [hXq];have lq := F.out.hiw
 replace F := za (F.out.gotA b0 bx );replace BX := ze BX b0;obtain ⟨q, hq⟩ := zc (W0.heap.size);rw [hq] at F lq
 try simp only [hq]
 clear bx b0 hsz hq hXq;gi_wp2_with fail;obtain ⟨V0, hV0⟩ := zc (Xq);rw [hV0] at F BX
 try rw [hV0]
 clear hV0;obtain ⟨S, hSd⟩ : ∃ S : Nat → Prop, S = fun k => k < V0.heap.size ∧ k ≠ g + 1 + 1 := ⟨_, rfl⟩
 have hS : ∀ k, S k → k < V0.heap.size := fun k h => by rw [hSd] at h; exact h.1
 have hSo : ¬ S (g + 1 + 1) := fun h => by rw [hSd] at h; exact h.2 rfl
 have hSi : ∀ k, k < V0.heap.size → k ≠ g + 1 + 1 → S k := fun k h1 h2 => by rw [hSd]; exact ⟨h1, h2⟩
 clear hSd;have hiw := F.out.hiw;have AF := za (BX.out.2.1);have M0 := za (BX.out.2.2.1);have XX := za (F.out.out.2);have BW := za (F.out.out.1.1.1.1.1);have hql := XX.out.lt;have hz20 : n + n * n ≤ 20 := by have := Nat.mul_le_mul hn hn; omega
 refine wpIn_rangeFunc_ownH (α := Num × Num) rfl (by decide) (gf := 183) (lb := #[.pointer (some ⟨q, 0, none⟩)]) rfl trivial (enters_of Tryz.func183 (by kernel_rfl) rfl)
  (ze3 8 (by decide) (g + 1 + 1) n hn A0 c0 A1 m1 c1 B0 d0 B1 k1 d1 x p y s hp hs av al ah ab bv bl bh bb cv cl ch cb dv dl dh db q V0 (by omega) XX.out F.out.out.1.1.1.1.2 F.out.out.1.1.1.2 F.out.out.1.1.2 F.out.out.1.2) (fun h k => h.trans k)
  (fun W l o o' hl ho hc _ => ⟨rfl, rfl, rfl, by simp, fun k o2 hk e c => (World.putObj_heap_other (fun el => by subst el; rw [ho] at e; cases e; rw [hc] at c; cases c)).trans e⟩) (Below.refl _ _) (fun _ => rfl)
  (fun pre W => At W (g + 1 + 1) 3 #[.int .i64 (QH f pre)] ∧ KC (g + 1 + 1) V0 W ∧ KB S V0 W) (fun _ _ _ => False)
  (by
   rintro pre W W' row ⟨h, k, b⟩ hgr hr;exact ⟨qx h hgr (fun r e => (hr r e).2), k.grown hgr (fun r e => .inr (hr r e).2), QZ b hS (Nat.le_refl _) hgr (fun r e => (hr r e).1)⟩)
  (fun _ _ _ _ _ hs _ _ => hs)
  ⟨M0.out, KC.refl _ _, KB.refl _ _⟩
  (fun x a' W => ∃ b1 b2, At W b1 71 #[x.1.v, x.1.l, x.1.h, x.1.bad] ∧ At W b2 71 #[x.2.v, x.2.l, x.2.h, x.2.bad] ∧
   a' = { tmps := #[.agg #[.slice A0 n c0, .int .i64 (n : Int), .int .i64 (n : Int), .slice A1 m1 c1, .slice B0 n d0, .int .i64 (n : Int), .int .i64 (n : Int), .slice B1 k1 d1, av, al, ah, ab, bv, bl, bh, bb, cv, cl, ch, cb, dv, dl, dh, db], .func (.func fn) #[] #[], .pointer (some ⟨g, 0, none⟩), .pointer (some ⟨g + 1, 0, none⟩), .int .i64 0, .pointer (some ⟨g + 1 + 1, 0, none⟩), .pointer (some ⟨b1, 0, none⟩), .pointer (some ⟨b2, 0, none⟩), .agg #[.slice A0 n c0, .int .i64 (n : Int), .int .i64 (n : Int), .slice A1 m1 c1, .slice B0 n d0, .int .i64 (n : Int), .int .i64 (n : Int), .slice B1 k1 d1, av, al, ah, ab, bv, bl, bh, bb, cv, cl, ch, cb, dv, dl, dh, db], zhN q, x.1.val, x.2.val, undef, undef, undef, undef, undef, undef, undef], defers := [] })
  (by
   rintro x a' u W W' row ⟨b1, b2, h1, h2, h3⟩ hgr hr;exact ⟨b1, b2, qx h1 hgr (fun r e => (hr r e).2), qx h2 hgr (fun r e => (hr r e).2), h3⟩)
  ?assign ?body ?done ?stop
 case assign =>
  rintro l pre ⟨⟨xv, xl, xh, xb⟩, ⟨yv, yl, yh, yb⟩⟩ W K ⟨h, k, b⟩ hK;dsimp only [zeA, Num.val] at hK ⊢;have H := za h;have HK := za hK;have HC := za k;have HB := za b;clear h hK k b;gi_wp2_with fail;have hb2 := za (show Below W.heap.size W ((W.alloc (.cells #[xv, xl, xh, xb] 71)).alloc (.cells #[yv, yl, yh, yb] 71)) from zg (zg (Below.refl _ _) _) _);have hk2 := KC.of_below (h := g + 1 + 1) hb2.out
  have hk3 : KB S W ((W.alloc (.cells #[xv, xl, xh, xb] 71)).alloc (.cells #[yv, yl, yh, yb] 71)) := (KB.refl S W).call (fun k hk => Nat.lt_of_lt_of_le (hS k hk) HB.out.size) hb2.out;exact HK.out _ _ (zA hb2.out) hk2 ⟨(H.out.alloc _).alloc _, HC.out.trans hk2, HB.out.trans hk3⟩ ⟨W.heap.size, W.heap.size + 1, (At.new _ _ _).alloc _, At.new' (by simp), rfl⟩
 case body =>
  rintro l pre ⟨x', y'⟩ a' W hl hr ⟨h, k, b⟩ ⟨b1, b2, h1, h2, rfl⟩ hlen;have HX := za h;have HC := za k;have HB := za b;have CC := za (fun W => HF.out x' y' W);obtain ⟨r, hrr⟩ := zc (f x' y');obtain ⟨m, hm⟩ := zc (QH f pre);have HE := za (show mx m r = QH f (pre ++ [(x', y')]) by unfold QH at hm ⊢; rw [List.foldl_append, hm]; show _ = mx m (f x' y'); rw [hrr]);simp only [hrr] at CC;rw [hm] at HX;clear h k b hrr hm
  obtain ⟨xv, xl, xh, xb⟩ := x';obtain ⟨yv, yl, yh, yb⟩ := y';dsimp only [Num.val] at CC h1 h2 ⊢;have a0 := (HC.out.at_ (by omega) AF.out).cell 0;have m0 := HX.out.cell 0;obtain ⟨c0', c1', c2', c3'⟩ := h1.four;obtain ⟨d0', d1', d2', d3'⟩ := h2.four;gi_wp2_with fail;refine jK (by kernel_rfl) (by kernel_rfl) (by rintro ⟨a, w, h⟩; exact h) (jw [] [0, 1, 2, 3] [4, 5, 6] (.cons rfl (.cons rfl (.cons rfl (.cons rfl .nil)))) (.cons rfl (.cons rfl (.cons rfl .nil))) (by kernel_rfl) (fun c a d v w h => h) ?_)
  have ka0 := fun x => But.cell (G := []) a0 (by simp) x;have km0 := fun x => But.cell (G := []) m0 (by simp) x;have kc0 := fun x => But.cell (G := []) c0' (by simp) x;have kc1 := fun x => But.cell (G := []) c1' (by simp) x;have kc2 := fun x => But.cell (G := []) c2' (by simp) x;have kc3 := fun x => But.cell (G := []) c3' (by simp) x;have kd0 := fun x => But.cell (G := []) d0' (by simp) x;have kd1 := fun x => But.cell (G := []) d1' (by simp) x
  have kd2 := fun x => But.cell (G := []) d2' (by simp) x;have kd3 := fun x => But.cell (G := []) d3' (by simp) x
  repeat (go_big_quiet_step (fail))
  refine wpQuiet_nil ?_;clear ka0 km0 kc0 kc1 kc2 kc3 kd0 kd1 kd2 kd3;refine zp rfl (fun K hK => ?_);go_simp;refine (CC.out _).mono ?_;rintro e w1 ⟨rfl, hb1⟩;replace hb1 := qe hb1;refine hK _ _ (zI ((zB.refl _ _).call hb1)) ?_;clear hK K;refine zp rfl (fun K hK => ?_);go_simp;rw [show max m r = mx m r by unfold mx; split <;> omega];refine hK _ _ (zI ((zB.refl _ _).call hb1)) ?_;clear hK K;have e0 := (HX.out.below hb1).cell 0
  have z0 := (HX.out.below hb1).frozen 0;have M1 := za (HX.out.below hb1);have K1 := za (zA (B := V0.heap.size) hb1);have K2 := za (KC.of_below (h := g + 1 + 1) hb1);have K3 := za (((KB.refl S W).call (fun k hk => Nat.lt_of_lt_of_le (hS k hk) HB.out.size) hb1));clear hb1;refine zX rfl (fun K hK => ?_);go_simp;refine hK _ _ ?_;clear hK K;exact ⟨K1.out.trans (zY _ _ _ _), K2.out.set _ _, by rw [← HE.out]; exact M1.out.set 0 _ rfl, (HC.out.trans K2.out).set _ _, (HB.out.trans K3.out).set hSo _ _⟩
 case done =>
  rintro D zs W hD hzz ⟨h, k, b⟩ hK;rw [hzz, HZ.out] at h;have HK := za hK;have e0 := h.cell 0;have HB := za b;have hD' := za hD;clear h k b hK hD hzz;gi_wp2_with fail;refine ⟨by simp, .inl ⟨_, _, rfl, run_takeDeferred HK.out, ?_⟩⟩;have hg0 : g ≤ V0.heap.size := by omega
  refine ⟨_, results_tmp rfl _ _ _, rfl, ?_⟩;exact qA (BW.out.trans (HB.out.below (fun k hk => hSi k (by omega) (by omega)))) (Nat.le_trans hg0 HB.out.size) (Nat.le_trans hg0 hD'.out) _
 case stop => exact fun D cc pre W _ _ h _ => h.elim
theorem zb9 (n : Nat) (hn : n ≤ 4) (A0 : Option Addr) (c0 : Nat) (A1 : Option Addr) (m1 c1 : Nat) (B0 : Option Addr) (d0 : Nat) (B1 : Option Addr) (k1 d1 : Nat) (x p y s : List Num) (hp : zr n n p) (hs : zr n n s) (a b c d : Num) (w : World) (h0 : zk w A0 n c0 x) (h1 : zk w A1 m1 c1 p) (h2 : zk w B0 n d0 y) (h3 : zk w B1 k1 d1 s) :
  Calls Tryz.prog 108 #[j9 n A0 c0 A1 m1 c1 B0 d0 B1 k1 d1 a b c d] w fun e w' => e = .returned (.bool (decide (0 < QH zb5 ((vT x p).zip (vS n y s))))) ∧ Below w.heap.size w w' := by
 have W1 : ∀ (W : World), zk W A0 n c0 x → zk W A1 m1 c1 p → zk W B0 n d0 y → zk W B1 k1 d1 s → Calls Tryz.prog 140 #[j9 n A0 c0 A1 m1 c1 B0 d0 B1 k1 d1 a b c d] W fun e w' => e = .returned (.int .i64 (QH zb5 ((vT x p).zip (vS n y s)))) ∧ Below W.heap.size W w' := by
  intro W q0 q1 q2 q3;obtain ⟨av, al, ah, ab⟩ := a;obtain ⟨bv, bl, bh, bb⟩ := b;obtain ⟨cv, cl, ch, cb⟩ := c;obtain ⟨dv, dl, dh, db⟩ := d;unfold j9;dsimp only;have C := za (fun (V : World) (h0 : zk V A0 n c0 x) (h1 : zk V A1 m1 c1 p) (h2 : zk V B0 n d0 y) (h3 : zk V B1 k1 d1 s) => VG 162 zb5 zeC (enters_of Tryz.func162 (by kernel_rfl) rfl) n hn A0 c0 A1 m1 c1 B0 d0 B1 k1 d1 x p y s hp hs av al ah ab bv bl bh bb cv cl ch cb dv dl dh db V h0 h1 h2 h3)
  obtain ⟨r, hr⟩ := zc (QH zb5 ((vT x p).zip (vS n y s)));rw [hr] at C ⊢;clear hr;go_enter Tryz.func140, Tryz.ntmps140;go_wp2_with (first | (refine jj rfl 76 _ rfl _ rfl ?_; intro W9 hW9; have bx9 := At.of_new hW9; have hbz := Y7 hW9) | (refine qs rfl 76 _ rfl _ _ _ rfl (bx9.load76 rfl) ?_))
  refine (C.out _ (q0.below hbz) (q1.below hbz) (q2.below hbz) (q3.below hbz)).mono ?_;exact Xbr
 have C := za (fun (V : World) (q0 : zk V A0 n c0 x) (q1 : zk V A1 m1 c1 p) (q2 : zk V B0 n d0 y) (q3 : zk V B1 k1 d1 s) => W1 V q0 q1 q2 q3);clear W1;obtain ⟨r, hr⟩ := zc (QH zb5 ((vT x p).zip (vS n y s)));rw [hr] at C ⊢;clear hr;obtain ⟨av, al, ah, ab⟩ := a;obtain ⟨bv, bl, bh, bb⟩ := b;obtain ⟨cv, cl, ch, cb⟩ := c;obtain ⟨dv, dl, dh, db⟩ := d;unfold j9 at C ⊢;dsimp only at C ⊢;go_enter Tryz.func108, Tryz.ntmps108
 go_wp2_with (first | (refine jj rfl 76 _ rfl _ rfl ?_; intro W9 hW9; have bx9 := At.of_new hW9; have hbz := Y7 hW9) | (refine qs rfl 76 _ rfl _ _ _ rfl (bx9.load76 rfl) ?_))
 refine (C.out _ (h0.below hbz) (h1.below hbz) (h2.below hbz) (h3.below hbz)).mono ?_;exact Xbr
end
def QG (cs : Array Value) (k : Nat) : List Value → Array Value
 | [] => cs
 | v :: vs => QG (cs.setIfInBounds k v) (k + 1) vs
theorem QW {P : Program} {b o : Nat} {t : TypeId} : ∀ (vs : List Value) (i : Nat) (cs : Array Value) (w : World), At w b t cs → o + i + vs.length ≤ cs.size → vs.all Value.oneCell' = true →
  ∃ W, (storeCells ⟨b, o, none⟩ vs i).run P w = .ok () W ∧ z7 b w W ∧ At W b t (QG cs (o + i) vs)
 | [], i, cs, w, h, _, _ => ⟨w, rfl, ⟨rfl, rfl, rfl, rfl, fun _ _ => rfl⟩, h⟩
 | v :: vs, i, cs, w, h, hl, h1 => by
  simp only [List.all_cons, Bool.and_eq_true] at h1;have hl' : o + i + vs.length + 1 ≤ cs.size := by simpa [Nat.add_assoc] using hl
  have hc : w.cell? ⟨b, o + i, none⟩ = some (cs[o + i]'(by omega)) := by rw [h.cell, Array.getElem?_eq_getElem (by omega)]
  have hf := h.frozen (o + i);obtain ⟨W, hr, ho, ha⟩ := QW (P := P) vs (i + 1) (cs.setIfInBounds (o + i) v) (w.setCell ⟨b, o + i, none⟩ v) (h.set (o + i) v rfl) (by rw [Array.size_setIfInBounds]; show o + (i + 1) + vs.length ≤ cs.size; omega) h1.2;refine ⟨W, ?_, (z7.set b (o + i) w v).trans ho, ha⟩;unfold storeCells;rw [Sem.run_bind, ziM];have hs : (store ⟨b, o + i, none⟩ v).run P w = .ok () (w.setCell ⟨b, o + i, none⟩ v) := by rw [run_store P w _ v _ h1.1, hc, hf]; rfl
  rw [hs];exact hr
theorem zcZ {P : Program} {w : World} (t : TypeId) (b o : Nat) (vs cs cs' : Array Value) (t' : TypeId) (hS : (Go.sizeOf t).run P w = .ok vs.size w) (h : At w b t' cs) (hl : o + vs.size ≤ cs.size) (h1 : vs.toList.all Value.oneCell' = true) (hcs : QG cs o vs.toList = cs') :
  ∃ W, (Instr.storeAt t (.pointer (some ⟨b, o, none⟩)) (.agg vs)).run P w = .ok () W ∧ z7 b w W ∧ At W b t' cs' := by
 obtain ⟨W, hr, ho, ha⟩ := QW (P := P) (b := b) (o := o) vs.toList 0 cs w h (by simpa using hl) h1;refine ⟨W, ?_, ho, by rw [Nat.add_zero, hcs] at ha; exact ha⟩;unfold Instr.storeAt storeVar;simp [Instr.sureAddr, hS, Value.cells, hr, Result.andThen]
theorem ze0 (w : World) : (Go.sizeOf 76).run Tryz.prog w = .ok 24 w := by kernel_rfl
theorem vA {P : Program} {o : Oper} {a : Act} {K : Act → World → Prop} {Q : Exit → Act → World → Prop} {w : World} (t : TypeId) (p x : Operand) (ho : o.op = .store t p x) (b i : Nat) (vs cs cs' : Array Value) (t' : TypeId) (hp : a.eval p = .pointer (some ⟨b, i, none⟩)) (hx : a.eval x = .agg vs)
  (hS : (Go.sizeOf t).run P w = .ok vs.size w) (hA : At w b t' cs) (hl : i + vs.size ≤ cs.size) (h1 : vs.toList.all Value.oneCell' = true) (hcs : QG cs i vs.toList = cs') (h : ∀ W, z7 b w W → At W b t' cs' → K (a.put o.dst undef) W) : o.wp P a w K Q := by
 obtain ⟨W, hr, k1, k2⟩ := zcZ (P := P) t b i vs cs cs' t' hS hA hl h1 hcs;unfold Oper.wp execOp;simp only [ho, hp, hx, hr, Sem.run_bind, Sem.run_pure, Result.andThen_ok];exact h W k1 k2
theorem vN {P : Program} {ops : Array Oper} {rest : List Oper} {o : Oper} {a : Act} {Q : Exit → Act → World → Prop} {w : World} (hgd : o.guard = none) (t : TypeId) (p x : Operand) (ho : o.op = .store t p x) (b i : Nat) (vs cs cs' : Array Value) (t' : TypeId) (hp : a.eval p = .pointer (some ⟨b, i, none⟩)) (hx : a.eval x = .agg vs)
  (hS : (Go.sizeOf t).run P w = .ok vs.size w) (hA : At w b t' cs) (hl : i + vs.size ≤ cs.size) (h1 : vs.toList.all Value.oneCell' = true) (hcs : QG cs i vs.toList = cs') (h : ∀ W, z7 b w W → At W b t' cs' → wpList P ops Q rest (a.put o.dst undef) W) : wpList P ops Q (o :: rest) a w :=
 wpList_plain hgd fun K hK => vA t p x ho b i vs cs cs' t' hp hx hS hA hl h1 hcs fun W k1 k2 => hK _ _ (h W k1 k2)
theorem ZZ : ∀ (vs : List Value) (cs : Array Value) (k i : Nat), k + vs.length ≤ cs.size → (QG cs k vs)[i]? = if k ≤ i ∧ i < k + vs.length then vs[i - k]? else cs[i]?
 | [], cs, k, i, _ => by
  unfold QG;rw [if_neg (by simp)]
 | v :: vs, cs, k, i, h => by
  have h' : k + vs.length + 1 ≤ cs.size := by simpa [Nat.add_assoc] using h
  unfold QG;rw [ZZ vs _ _ i (by rw [Array.size_setIfInBounds]; omega)]
  by_cases h1 : k + 1 ≤ i ∧ i < k + 1 + vs.length
  ·rw [if_pos h1, if_pos (by simp; omega)]
   obtain ⟨j, rfl⟩ : ∃ j, i = k + 1 + j := ⟨i - (k + 1), by omega⟩
   rw [show k + 1 + j - (k + 1) = j by omega, show k + 1 + j - k = j + 1 by omega];rfl
  ·rw [if_neg h1]
   by_cases hk : k = i
   ·subst hk
    rw [if_pos (by simp), Array.getElem?_setIfInBounds_self_of_lt (by omega), Nat.sub_self];rfl
   ·rw [if_neg (by simp; omega), Array.getElem?_setIfInBounds_ne hk]
theorem zfc {vs cs : Array Value} (h : cs.size = vs.size) : QG cs 0 vs.toList = vs := by
 apply Array.ext';apply List.ext_getElem?;intro i;rw [Array.getElem?_toList, ZZ _ _ _ _ (by simp [h])]
 by_cases hi : i < vs.size
 ·rw [if_pos (by simp; omega), Nat.sub_zero]
 ·rw [if_neg (by simp; omega), Array.getElem?_eq_none (by omega), List.getElem?_eq_none (by simpa using hi)]
theorem yg {ops : Array Oper} {rest : List Oper} {o : Oper} {a : Act} {Q : Exit → Act → World → Prop} {w : World} (hgd : o.guard = none) (p x : Operand) (ho : o.op = .store 76 p x) (b : Nat) (vs cs : Array Value) (hp : a.eval p = .pointer (some ⟨b, 0, none⟩)) (hx : a.eval x = .agg vs)
  (hA : At w b 76 cs) (hc : cs.size = 24) (hv : vs.size = 24) (h1 : vs.toList.all Value.oneCell' = true) (h : ∀ W, z7 b w W → At W b 76 vs → wpList Tryz.prog ops Q rest (a.put o.dst undef) W) : wpList Tryz.prog ops Q (o :: rest) a w :=
 vN hgd 76 p x ho b 0 vs cs vs 76 hp hx (by rw [hv]; exact ze0 w) hA (by omega) h1 (zfc (by omega)) h
end Go.Proofs.YtcoiklclbljjeaaGreatDoor.L
