/- Lemmas of the card's proof. -/
import Derived.Test.YtcoiklclbljjeaaGreatDoorM32
set_option linter.unusedVariables false
set_option linter.unusedSimpArgs false
set_option maxRecDepth 100000
set_option maxHeartbeats 16000000
namespace Go.Proofs.YtcoiklclbljjeaaGreatDoor.L
open Go.RowKit
section
attribute [local go_sem] Oper.semAt_some
def zM (l : List Int) : List Num := l.map qV
theorem zbu (n : Int) (w : World) : Calls Tryz.prog 137 #[n] w fun e w' => e = .returned (qV n).val ∧ Below w.heap.size w w' := by
 refine (VC n w).mono ?_;rintro e w' ⟨rfl, hb⟩;exact ⟨by unfold qV; split <;> rfl, hb⟩
theorem Qt (A : Option Addr) (n c : Nat) (l : List Int) (hn : n ≤ 1000) (w : World) (hx : zW w A n c l) : Calls Tryz.prog 132 #[.slice A n c] w (qT (zM l) w) := by
 have HX := za hx;have LX := za hx.1;clear hx;have hu := Tryz.underlying71;go_enter Tryz.func132, Tryz.ntmps132;go_wp2_with fail
 go_loopw [3, 5, 8] (fun v _ i wr => ∃ k : Nat, k ≤ n ∧ i = .int .i64 k ∧ Hid (zF wr w.heap.size v (zM (l.take k))) ∧ Hid (Below w.heap.size w wr)) (fun _ _ i _ => n - (intOf i).toNat)
 case atStart => exact ⟨0, by omega, rfl, za (zF.nil_ _ _), za (Below.refl _ _)⟩
 case round =>
  obtain ⟨k, hk, rfl, HO, HB⟩ := hrel
  by_cases hlt : k < n
  ·obtain ⟨b, o, x, rfl, hxk, x0⟩ := (HX.out.below HB.out).at_ (k := k) hlt
   have HT := za (show zM (l.take k) ++ [qV x] = zM (l.take (k + 1)) by rw [jV hxk]; simp [zM]);have HL := za (show (zM (l.take k)).length ≤ 1000 by unfold zM; rw [List.length_map, List.length_take]; omega);have C := za (fun W => zbu x W);obtain ⟨y', hy'⟩ := zc (qV x);rw [hy'] at HT;simp only [hy'] at C;obtain ⟨L, hL⟩ := zc (zM (l.take k));rw [hL] at HO HL HT;clear hy' hxk hL;obtain ⟨zv, zl, zh, zb⟩ := y'
   unfold Num.val at C;dsimp only at C;go_wp2_with fail;refine (C.out _).mono ?_;rintro e w2 ⟨rfl, hb2⟩;have O2 := za (HO.out.below hb2);have K2 := za (zj HB.out hb2);clear hb2 x0;go_wp2_with (at_builtin; refine yi rfl (.tmp 12) (.tmp 15) rfl w.heap.size u3 L ⟨zv, zl, zh, zb⟩ _ rfl (O2.out.alloc _) rfl (At.new' (by simp)) HL.out (zg K2.out _).size ?_; intro g1 cc1 w3 hown hgrow hat hg1; have O3 := za hown; have K3 := za (yO (zg K2.out _) (O2.out.alloc _) hgrow); clear hown hgrow hat hg1)
   exact XaB
  ·have e : l.take k = l := List.take_of_length_le (by rw [LX.out]; omega)
   rw [e] at HO;clear e;obtain ⟨A1, n1, c1, rfl⟩ := zO HO.out;go_wp2_with fail;go_ret;exact ⟨A1, n1, c1, rfl, HO.out, HB.out⟩
theorem jd (l : List Int) : (zM l).length = l.length := by simp [zM]
theorem Qs (n : Nat) (h1 : 1 ≤ n) (h2 : n ≤ 4) (A : Option Addr) (m c : Nat) (l : List Int) (hl : l.length = n * n) (w : World) (hx : zW w A m c l) : Calls Tryz.prog 130 #[.int .i64 (n : Int), .slice A m c] w (Qg n n (zM l) w) := by
 have hu := Tryz.underlying65;have hnn : n * n ≤ 16 := Nat.le_trans (Nat.mul_le_mul h2 h2) (by decide);have hm : m ≤ 1000 := by rw [← hx.1, hl]; omega
 have PT := za (fun (W : World) (k : zW W A m c l) => Qt A m c l hm W k);have hs : zr n n (zM l) := ⟨h1, by omega, h1, by omega, by rw [jd, hl]⟩
 have NW := za (fun (Q : Option Addr) (a b : Nat) (W : World) (k : zk W Q a b (zM l)) => y9 n n Q a b _ hs W k);have HX := za hx;clear hx;unfold zD at NW;go_enter Tryz.func130, Tryz.ntmps130;go_wp2_with fail;obtain ⟨W0, hW0⟩ := zc ((w.alloc (.cells #[.int .i64 0, .int .i64 0, .slice none 0 0] 65)));obtain ⟨bx, b0, hsz⟩ := zV hW0;rw [hW0];clear hW0;have F := za ((Off.start b0 hsz).argI b0 (HX.out))
 have BX := za bx;clear bx b0 hsz;obtain ⟨g, hg⟩ := zc (w.heap.size);rw [hg] at F BX
 try simp only [hg]
 refine (PT.out _ F.out.out.2).mono ?_;rintro e w1 ⟨Q1, a1, b1, rfl, ho, hb⟩;replace F := za (F.out.gotO hb ho );replace BX := ze BX hb;clear hb ho;go_wp2_with fail;refine (NW.out Q1 a1 b1 _ F.out.out.2).mono ?_;rintro e w2 ⟨Q2, a2, b2, rfl, hq, hb, hfr⟩;unfold zD;have fN2 : ∀ b o, Q2 = some ⟨b, o, none⟩ → g + 1 ≤ b := fun b o e => Nat.le_trans F.out.hiw (hfr b o e);replace F := za (F.out.gotN hb hq hfr)
 replace BX := ze BX hb;clear hb hq hfr;have r0 := ((BX.out.1).alloc (.cells #[.int .i64 (n : Int), .int .i64 (n : Int), .slice Q2 a2 b2] 65)).cell 0;have zr0 := ((BX.out.1).alloc (.cells #[.int .i64 (n : Int), .int .i64 (n : Int), .slice Q2 a2 b2] 65)).frozen 0;have r1 := ((BX.out.1).alloc (.cells #[.int .i64 (n : Int), .int .i64 (n : Int), .slice Q2 a2 b2] 65)).cell 1;have zr1 := ((BX.out.1).alloc (.cells #[.int .i64 (n : Int), .int .i64 (n : Int), .slice Q2 a2 b2] 65)).frozen 1
 have r2 := ((BX.out.1).alloc (.cells #[.int .i64 (n : Int), .int .i64 (n : Int), .slice Q2 a2 b2] 65)).cell 2;have zr2 := ((BX.out.1).alloc (.cells #[.int .i64 (n : Int), .int .i64 (n : Int), .slice Q2 a2 b2] 65)).frozen 2;go_wp2_with fail;clear r0 zr0 r1 zr1 r2 zr2;obtain ⟨Xh, hXh⟩ := zc (w2.alloc (.cells #[.int .i64 (n : Int), .int .i64 (n : Int), .slice Q2 a2 b2] 65));obtain ⟨bx, b0, hsz⟩ := zV hXh
 rw [hXh];have lh := F.out.hiw;replace F := za (F.out.gotA b0 bx );replace BX := ze BX b0;obtain ⟨h, hh⟩ := zc (w2.heap.size);rw [hh] at F lh
 try simp only [hh]
 clear bx b0 hsz hh hXh;have F9 := F.out.set3 (g := g) (.inl (by omega)) (.int .i64 (n : Int)) (.int .i64 (n : Int)) (.slice Q2 a2 b2);obtain ⟨d0, d1, d2⟩ := ((BX.out.1).set3 (.int .i64 (n : Int)) (.int .i64 (n : Int)) (.slice Q2 a2 b2)).three;exact bodyPost_ret (v := .agg #[.int .i64 (n : Int), .int .i64 (n : Int), .slice Q2 a2 b2]) (by simp [results, Tryz.results130, go_sem, d0, d1, d2]) rfl ⟨Q2, a2, b2, rfl, F9.out.1.2, by rw [hg]; exact F9.out.1.1.1.1, fun b o e => by rw [hg]; have := fN2 b o e; omega⟩
end
section
attribute [local go_sem] Oper.semAt_some
def j9 (n : Nat) (A0 : Option Addr) (c0 : Nat) (A1 : Option Addr) (m1 c1 : Nat) (B0 : Option Addr) (d0 : Nat) (B1 : Option Addr) (k1 d1 : Nat) (a b c d : Num) : Value :=
 .agg #[.slice A0 n c0, .int .i64 (n : Int), .int .i64 (n : Int), .slice A1 m1 c1, .slice B0 n d0, .int .i64 (n : Int), .int .i64 (n : Int), .slice B1 k1 d1,
  .int .i64 a.v, a.l, a.h, a.bad, b.v, b.l, b.h, b.bad, c.v, c.l, c.h, c.bad, d.v, d.l, d.h, d.bad]
theorem jf (n : Nat) (hn : n ≤ 4) (A0 : Option Addr) (c0 : Nat) (A1 : Option Addr) (m1 c1 : Nat) (B0 : Option Addr) (d0 : Nat) (B1 : Option Addr) (k1 d1 : Nat) (p s : List Num) (hp : zr n n p) (hs : zr n n s) (hpl : p.length = m1) (hsl : s.length = k1) (a b c d : Num) (w : World) :
  Calls Tryz.prog 53 #[j9 n A0 c0 A1 m1 c1 B0 d0 B1 k1 d1 a b c d] w fun e w' => e = .returned (.bool true) ∧ Below w.heap.size w w' := by
 have hu := Tryz.underlying76;have hu1 := Tryz.underlying67;have hu2 := Tryz.underlying69;have hu3 := Tryz.underlying65;have J := za (fun W => va n A0 c0 A1 m1 c1 p hn hp hpl W);have R := za (fun W => Zi n B0 d0 B1 k1 d1 s hn hs hsl W);obtain ⟨av, al, ah, ab⟩ := a;obtain ⟨bv, bl, bh, bb⟩ := b;obtain ⟨cv, cl, ch, cb⟩ := c;obtain ⟨dv, dl, dh, db⟩ := d;unfold yA at J R;unfold j9;dsimp only;go_enter Tryz.func53, Tryz.ntmps53
 go_wp2_with fail;obtain ⟨W0, hW0⟩ := zc ((w.alloc (.cells #[.slice A0 n c0, .int .i64 (n : Int), .int .i64 (n : Int), .slice A1 m1 c1, .slice B0 n d0, .int .i64 (n : Int), .int .i64 (n : Int), .slice B1 k1 d1, av, al, ah, ab, bv, bl, bh, bb, cv, cl, ch, cb, dv, dl, dh, db] 76)));obtain ⟨bx, b0, hsz⟩ := zV hW0;rw [hW0];clear hW0;have F := za (Off.start b0 hsz);have BX := za bx;clear bx b0 hsz;obtain ⟨g, hg⟩ := zc (w.heap.size)
 rw [hg] at F BX
 try simp only [hg]
 have x0 := (BX.out.1).cell 0;have x1 := (BX.out.1).cell 1;have x2 := (BX.out.1).cell 2;have x3 := (BX.out.1).cell 3;have x4 := (BX.out.1).cell 4;have x5 := (BX.out.1).cell 5;have x6 := (BX.out.1).cell 6;have x7 := (BX.out.1).cell 7
 try go_wp2_with fail
 refine (J.out _).mono ?_;rintro e w1 ⟨rfl, hb⟩;replace F := zd F hb;replace BX := ze BX hb;clear hb x0 x1 x2 x3 x4 x5 x6 x7;have x0 := (BX.out.1).cell 0;have x1 := (BX.out.1).cell 1;have x2 := (BX.out.1).cell 2;have x3 := (BX.out.1).cell 3;have x4 := (BX.out.1).cell 4;have x5 := (BX.out.1).cell 5;have x6 := (BX.out.1).cell 6;have x7 := (BX.out.1).cell 7;go_wp2_with fail;refine (R.out _).mono ?_;rintro e w2 ⟨rfl, hb⟩
 replace F := zd F hb;replace BX := ze BX hb;clear hb x0 x1 x2 x3 x4 x5 x6 x7;have x0 := (BX.out.1).cell 0;have x1 := (BX.out.1).cell 1;have x2 := (BX.out.1).cell 2;have x3 := (BX.out.1).cell 3;have x4 := (BX.out.1).cell 4;have x5 := (BX.out.1).cell 5;have x6 := (BX.out.1).cell 6;have x7 := (BX.out.1).cell 7;go_wp2_with fail;exact bodyPost_ret (v := .bool true) (by simp [results, Tryz.results53, go_sem]) rfl ⟨rfl, by rw [hg]; exact F.out.out⟩
end
theorem Xbb {P : Prop} (h : P := by
 unfold Oper.wp execOp;simp only [ho, hv, zgi (P := P) t cs w _ rfl _ rfl, Sem.run_bind, Sem.run_pure, Result.andThen_ok];exact hK _ _ (h _ rfl)) : P := h
theorem Xbu {P : Prop} (h : P := by
 unfold Oper.wp execOp;simp only [ho, hx, hr, Sem.run_bind, Sem.run_pure, Result.andThen_ok];exact hK _ _ h) : P := h
theorem XaF {P : Prop} (h : P := by
 rintro e w2 ⟨Q, q, r, rfl, ho, hb⟩;have hfr := jM ho (show w.heap.size ≤ _ from by have := F.out.hiw; omega);have hfo := za hfr;replace F := zd F hb;replace BX := ze BX hb;clear hb x0 x4 ho hfr;have hfo' := za hfo.out;go_wp2_with fail;go_ret;exact ⟨Q, q, r, rfl, by first | exact hfo'.out | (rw [hg]; exact hfo'.out) | (rw [← hg]; exact hfo'.out), by first | (rw [hg]; exact F.out.out.1.1.1.1) | exact F.out.out.1.1.1.1⟩) : P := h
theorem Xbc {P : Prop} (h : P := by
 go_wp2_with fail;go_ret;exact ⟨Q, q, r, rfl, F.out.out.2, by first | (rw [hg]; exact F.out.out.1.1.1.1.1) | exact F.out.out.1.1.1.1.1⟩) : P := h
section
attribute [local go_sem] Oper.semAt_some
theorem VZ {P : Program} {w : World} (t : TypeId) (b o : Nat) (cs : List Value) (hA : (isAgg t).run P w = .ok true w) (hS : (Go.sizeOf t).run P w = .ok cs.length w) (h : ∀ j v, cs[j]? = some v → w.cell? ⟨b, o + j, none⟩ = some v) :
  (Instr.loadAt t (.pointer (some ⟨b, o, none⟩))).run P w = .ok (.agg cs.toArray) w := by
 have hl := run_loadCells_list (P := P) w ⟨b, o, none⟩ cs (fun j v hj => by rw [ziM]; exact h j v hj);unfold Instr.loadAt loadVar;simp [Instr.sureAddr, hA, hS, hl, Result.andThen]
theorem zjT {w : World} {b o : Nat} {cs : Array Value} (hs : cs.size = 24) (h : ∀ (j : Nat) (v : Value), cs[j]? = some v → w.cell? ⟨b, o + j, none⟩ = some v) :
  (Instr.loadAt 76 (.pointer (some ⟨b, o, none⟩))).run Tryz.prog w = .ok (.agg cs) w := by
 have h1 : (isAgg 76).run Tryz.prog w = .ok true w := by kernel_rfl
 have h2 : (Go.sizeOf 76).run Tryz.prog w = .ok 24 w := by kernel_rfl
 have := VZ (P := Tryz.prog) (w := w) 76 b o cs.toList h1 (by rw [Array.length_toList, hs]; exact h2) (fun j v hj => h j v (by simpa using hj))
 simpa using this
theorem At.load76 {w : World} {g : Nat} {cs : Array Value} (h : At w g 76 cs) (hs : cs.size = 24) : (Instr.loadAt 76 (.pointer (some ⟨g, 0, none⟩))).run Tryz.prog w = .ok (.agg cs) w :=
 L.zjT hs fun j v hj => by rw [Nat.zero_add, h.cell]; exact hj
theorem zgi {P : Program} (t : TypeId) (cs : Array Value) (w : World) (g : Nat) (hg : w.heap.size = g) (W : World) (hW : w.alloc (.cells cs t) = W) : (Instr.box t (.agg cs)).run P w = .ok (.pointer (some ⟨g, 0, none⟩)) W := by
 subst hg hW;rfl
theorem jj {P : Program} {ops : Array Oper} {rest : List Oper} {o : Oper} {a : Act} {Q : Exit → Act → World → Prop} {w : World} (hgd : o.guard = none) (t : TypeId) (x : Operand) (ho : o.op = .box t x) (cs : Array Value) (hv : a.eval x = .agg cs)
  (h : ∀ W', w.alloc (.cells cs t) = W' → wpList P ops Q rest (a.put o.dst (.pointer (some ⟨w.heap.size, 0, none⟩))) W') : wpList P ops Q (o :: rest) a w := by
 refine wpList_plain hgd fun K hK => ?_;exact Xbb
theorem qs {P : Program} {ops : Array Oper} {rest : List Oper} {o : Oper} {a : Act} {Q : Exit → Act → World → Prop} {w : World} (hgd : o.guard = none) (t : TypeId) (x : Operand) (ho : o.op = .load t x) (b i : Nat) (cs : Array Value) (hx : a.eval x = .pointer (some ⟨b, i, none⟩))
  (hr : (Instr.loadAt t (.pointer (some ⟨b, i, none⟩))).run P w = .ok (.agg cs) w) (h : wpList P ops Q rest (a.put o.dst (.agg cs)) w) : wpList P ops Q (o :: rest) a w := by
 refine wpList_plain hgd fun K hK => ?_;exact Xbu
theorem At.of_new {w W : World} {cs : Array Value} {t : TypeId} (h : w.alloc (.cells cs t) = W) : At W w.heap.size t cs := by subst h; exact At.new w t cs
theorem Qu (n : Nat) (hn : n ≤ 4) (A0 : Option Addr) (c0 : Nat) (A1 : Option Addr) (m1 c1 : Nat) (B0 : Option Addr) (d0 : Nat) (B1 : Option Addr) (k1 d1 : Nat) (x p y s : List Num) (hp : zr n n p) (hs : zr n n s) (a b c d : Num) (w : World) (h0 : zk w A0 n c0 x) (h1 : zk w A1 m1 c1 p) (h2 : zk w B0 n d0 y) (h3 : zk w B1 k1 d1 s) :
  Calls Tryz.prog 22 #[j9 n A0 c0 A1 m1 c1 B0 d0 B1 k1 d1 a b c d, .int .i64 0] w (qT x w) := by
 have hu := Tryz.underlying76;have hu1 := Tryz.underlying67;have hu2 := Tryz.underlying69;have hu3 := Tryz.underlying65;have hu4 := Tryz.underlying71;have RI := za (fun W => jf n hn A0 c0 A1 m1 c1 B0 d0 B1 k1 d1 p s hp hs h1.1 h3.1 a b c d W);have H0 := za h0;have H1 := za h1;have H2 := za h2;have H3 := za h3;clear h0 h1 h2 h3;have CL := za (fun (A : Option Addr) (c : Nat) (l : List Num) (W : World) (h : zk W A n c l) => jJ A n c l (by omega) W h)
 obtain ⟨av, al, ah, ab⟩ := a;obtain ⟨bv, bl, bh, bb⟩ := b;obtain ⟨cv, cl, ch, cb⟩ := c;obtain ⟨dv, dl, dh, db⟩ := d;unfold j9 at RI ⊢;dsimp only at RI ⊢;go_enter Tryz.func22, Tryz.ntmps22;go_wp2_with (first | (refine jj rfl 76 _ rfl _ rfl ?_; intro W9 hW9; have bx9 := At.of_new hW9) | refine qs rfl 76 _ rfl _ _ _ rfl (bx9.load76 rfl) ?_)
 clear bx9;subst hW9;obtain ⟨W0, hW0⟩ := zc ((w.alloc (.cells #[.slice A0 n c0, .int .i64 (n : Int), .int .i64 (n : Int), .slice A1 m1 c1, .slice B0 n d0, .int .i64 (n : Int), .int .i64 (n : Int), .slice B1 k1 d1, av, al, ah, ab, bv, bl, bh, bb, cv, cl, ch, cb, dv, dl, dh, db] 76)));obtain ⟨bx, b0, hsz⟩ := zV hW0;rw [hW0];clear hW0;have F := za (((((Off.start b0 hsz).argN b0 (H0.out)).argN b0 (H1.out)).argN b0 (H2.out)).argN b0 (H3.out))
 have BX := za bx;clear bx b0 hsz;obtain ⟨g, hg⟩ := zc (w.heap.size);rw [hg] at F BX
 try simp only [hg]
 refine (RI.out _).mono ?_;rintro e w1 ⟨rfl, hb⟩;replace F := zd F hb;replace BX := ze BX hb;clear hb;have x0 := (BX.out.1).cell 0;have x4 := (BX.out.1).cell 4;go_wp2_with fail;refine (CL.out _ _ _ _ F.out.out.1.1.1.2).mono ?_;exact XaF
theorem YR (n : Nat) (hn : n ≤ 4) (A0 : Option Addr) (c0 : Nat) (A1 : Option Addr) (m1 c1 : Nat) (B0 : Option Addr) (d0 : Nat) (B1 : Option Addr) (k1 d1 : Nat) (x p y s : List Num) (hp : zr n n p) (hs : zr n n s) (a b c d : Num) (w : World) (h0 : zk w A0 n c0 x) (h1 : zk w A1 m1 c1 p) (h2 : zk w B0 n d0 y) (h3 : zk w B1 k1 d1 s) :
  Calls Tryz.prog 22 #[j9 n A0 c0 A1 m1 c1 B0 d0 B1 k1 d1 a b c d, .int .i64 1] w (qT y w) := by
 have hu := Tryz.underlying76;have hu1 := Tryz.underlying67;have hu2 := Tryz.underlying69;have hu3 := Tryz.underlying65;have hu4 := Tryz.underlying71;have RI := za (fun W => jf n hn A0 c0 A1 m1 c1 B0 d0 B1 k1 d1 p s hp hs h1.1 h3.1 a b c d W);have H0 := za h0;have H1 := za h1;have H2 := za h2;have H3 := za h3;clear h0 h1 h2 h3;have CL := za (fun (A : Option Addr) (c : Nat) (l : List Num) (W : World) (h : zk W A n c l) => jJ A n c l (by omega) W h)
 obtain ⟨av, al, ah, ab⟩ := a;obtain ⟨bv, bl, bh, bb⟩ := b;obtain ⟨cv, cl, ch, cb⟩ := c;obtain ⟨dv, dl, dh, db⟩ := d;unfold j9 at RI ⊢;dsimp only at RI ⊢;go_enter Tryz.func22, Tryz.ntmps22;go_wp2_with (first | (refine jj rfl 76 _ rfl _ rfl ?_; intro W9 hW9; have bx9 := At.of_new hW9) | refine qs rfl 76 _ rfl _ _ _ rfl (bx9.load76 rfl) ?_)
 clear bx9;subst hW9;obtain ⟨W0, hW0⟩ := zc ((w.alloc (.cells #[.slice A0 n c0, .int .i64 (n : Int), .int .i64 (n : Int), .slice A1 m1 c1, .slice B0 n d0, .int .i64 (n : Int), .int .i64 (n : Int), .slice B1 k1 d1, av, al, ah, ab, bv, bl, bh, bb, cv, cl, ch, cb, dv, dl, dh, db] 76)));obtain ⟨bx, b0, hsz⟩ := zV hW0;rw [hW0];clear hW0;have F := za (((((Off.start b0 hsz).argN b0 (H0.out)).argN b0 (H1.out)).argN b0 (H2.out)).argN b0 (H3.out))
 have BX := za bx;clear bx b0 hsz;obtain ⟨g, hg⟩ := zc (w.heap.size);rw [hg] at F BX
 try simp only [hg]
 refine (RI.out _).mono ?_;rintro e w1 ⟨rfl, hb⟩;replace F := zd F hb;replace BX := ze BX hb;clear hb;have x0 := (BX.out.1).cell 0;have x4 := (BX.out.1).cell 4;go_wp2_with fail;refine (CL.out _ _ _ _ F.out.out.1.2).mono ?_;exact XaF
theorem YS (n : Nat) (hn : n ≤ 4) (A0 : Option Addr) (c0 : Nat) (A1 : Option Addr) (m1 c1 : Nat) (B0 : Option Addr) (d0 : Nat) (B1 : Option Addr) (k1 d1 : Nat) (x p y s : List Num) (hp : zr n n p) (hs : zr n n s) (a b c d : Num) (w : World) (h0 : zk w A0 n c0 x) (h1 : zk w A1 m1 c1 p) (h2 : zk w B0 n d0 y) (h3 : zk w B1 k1 d1 s) :
  Calls Tryz.prog 23 #[j9 n A0 c0 A1 m1 c1 B0 d0 B1 k1 d1 a b c d, .int .i64 0] w fun e w' => ∃ A m c, e = .returned (.slice A m c) ∧ zk w' A m c p ∧ Below w.heap.size w w' := by
 have hu := Tryz.underlying76;have hu1 := Tryz.underlying67;have hu2 := Tryz.underlying69;have hu3 := Tryz.underlying65;have hu4 := Tryz.underlying71;have RI := za (fun W => jf n hn A0 c0 A1 m1 c1 B0 d0 B1 k1 d1 p s hp hs h1.1 h3.1 a b c d W);have H0 := za h0;have H1 := za h1;have H2 := za h2;have H3 := za h3;clear h0 h1 h2 h3;have hm1 : m1 ≤ 1000 := by have := H1.out.1; have := hp.prod; have := hp.len; omega
 have CL := za (fun (W : World) (h : zk W A1 m1 c1 p) => jJ A1 m1 c1 p hm1 W h);obtain ⟨av, al, ah, ab⟩ := a;obtain ⟨bv, bl, bh, bb⟩ := b;obtain ⟨cv, cl, ch, cb⟩ := c;obtain ⟨dv, dl, dh, db⟩ := d;unfold j9 at RI ⊢;dsimp only at RI ⊢;go_enter Tryz.func23, Tryz.ntmps23;go_wp2_with (first | (refine jj rfl 76 _ rfl _ rfl ?_; intro W9 hW9; have bx9 := At.of_new hW9) | refine qs rfl 76 _ rfl _ _ _ rfl (bx9.load76 rfl) ?_)
 clear bx9;subst hW9;obtain ⟨W0, hW0⟩ := zc ((w.alloc (.cells #[.slice A0 n c0, .int .i64 (n : Int), .int .i64 (n : Int), .slice A1 m1 c1, .slice B0 n d0, .int .i64 (n : Int), .int .i64 (n : Int), .slice B1 k1 d1, av, al, ah, ab, bv, bl, bh, bb, cv, cl, ch, cb, dv, dl, dh, db] 76)));obtain ⟨bx, b0, hsz⟩ := zV hW0;rw [hW0];clear hW0;have F := za (((((Off.start b0 hsz).argN b0 (H0.out)).argN b0 (H1.out)).argN b0 (H2.out)).argN b0 (H3.out))
 have BX := za bx;clear bx b0 hsz;obtain ⟨g, hg⟩ := zc (w.heap.size);rw [hg] at F BX
 try simp only [hg]
 refine (RI.out _).mono ?_;rintro e w1 ⟨rfl, hb⟩;replace F := zd F hb;replace BX := ze BX hb;clear hb;have x0 := (BX.out.1).cell 0;have x1 := (BX.out.1).cell 1;have x2 := (BX.out.1).cell 2;have x3 := (BX.out.1).cell 3;have x4 := (BX.out.1).cell 4;have x5 := (BX.out.1).cell 5;have x6 := (BX.out.1).cell 6;have x7 := (BX.out.1).cell 7;go_wp2_with fail;refine (CL.out _ F.out.out.1.1.2).mono ?_;rintro e w2 ⟨Q, q, r, rfl, ho, hb⟩
 have fN9 : ∀ b o, Q = some ⟨b, o, none⟩ → g + 1 ≤ b := fun b o e => Nat.le_trans F.out.hiw (zU ho b o e);replace F := za (F.out.gotO hb ho );replace BX := ze BX hb;clear hb x0 x1 x2 x3 x4 x5 x6 x7 ho;exact Xbc
theorem zdd (n : Nat) (hn : n ≤ 4) (A0 : Option Addr) (c0 : Nat) (A1 : Option Addr) (m1 c1 : Nat) (B0 : Option Addr) (d0 : Nat) (B1 : Option Addr) (k1 d1 : Nat) (x p y s : List Num) (hp : zr n n p) (hs : zr n n s) (a b c d : Num) (w : World) (h0 : zk w A0 n c0 x) (h1 : zk w A1 m1 c1 p) (h2 : zk w B0 n d0 y) (h3 : zk w B1 k1 d1 s) :
  Calls Tryz.prog 23 #[j9 n A0 c0 A1 m1 c1 B0 d0 B1 k1 d1 a b c d, .int .i64 1] w fun e w' => ∃ A m c, e = .returned (.slice A m c) ∧ zk w' A m c (j2 n s) ∧ Below w.heap.size w w' := by
 have hu := Tryz.underlying76;have hu1 := Tryz.underlying67;have hu2 := Tryz.underlying69;have hu3 := Tryz.underlying65;have hu4 := Tryz.underlying71;have RI := za (fun W => jf n hn A0 c0 A1 m1 c1 B0 d0 B1 k1 d1 p s hp hs h1.1 h3.1 a b c d W);have H0 := za h0;have H1 := za h1;have H2 := za h2;have H3 := za h3;clear h0 h1 h2 h3;have CO := za (fun (W : World) (h : zk W B1 k1 d1 s) => ze6 n hn B0 d0 B1 k1 d1 s hs W h)
 unfold yA at CO;obtain ⟨av, al, ah, ab⟩ := a;obtain ⟨bv, bl, bh, bb⟩ := b;obtain ⟨cv, cl, ch, cb⟩ := c;obtain ⟨dv, dl, dh, db⟩ := d;unfold j9 at RI ⊢;dsimp only at RI ⊢;go_enter Tryz.func23, Tryz.ntmps23;go_wp2_with (first | (refine jj rfl 76 _ rfl _ rfl ?_; intro W9 hW9; have bx9 := At.of_new hW9) | refine qs rfl 76 _ rfl _ _ _ rfl (bx9.load76 rfl) ?_)
 clear bx9;subst hW9;obtain ⟨W0, hW0⟩ := zc ((w.alloc (.cells #[.slice A0 n c0, .int .i64 (n : Int), .int .i64 (n : Int), .slice A1 m1 c1, .slice B0 n d0, .int .i64 (n : Int), .int .i64 (n : Int), .slice B1 k1 d1, av, al, ah, ab, bv, bl, bh, bb, cv, cl, ch, cb, dv, dl, dh, db] 76)));obtain ⟨bx, b0, hsz⟩ := zV hW0;rw [hW0];clear hW0;have F := za (((((Off.start b0 hsz).argN b0 (H0.out)).argN b0 (H1.out)).argN b0 (H2.out)).argN b0 (H3.out))
 have BX := za bx;clear bx b0 hsz;obtain ⟨g, hg⟩ := zc (w.heap.size);rw [hg] at F BX
 try simp only [hg]
 refine (RI.out _).mono ?_;rintro e w1 ⟨rfl, hb⟩;replace F := zd F hb;replace BX := ze BX hb;clear hb;have x0 := (BX.out.1).cell 0;have x1 := (BX.out.1).cell 1;have x2 := (BX.out.1).cell 2;have x3 := (BX.out.1).cell 3;have x4 := (BX.out.1).cell 4;have x5 := (BX.out.1).cell 5;have x6 := (BX.out.1).cell 6;have x7 := (BX.out.1).cell 7;go_wp2_with fail;refine (CO.out _ F.out.out.2).mono ?_;rintro e w2 ⟨Q, q, r, rfl, ho, hb, hfr⟩
 unfold zD;have fN9 : ∀ b o, Q = some ⟨b, o, none⟩ → g + 1 ≤ b := fun b o e => Nat.le_trans F.out.hiw (hfr b o e);replace F := za (F.out.gotN hb ho hfr);replace BX := ze BX hb;clear hb x0 x1 x2 x3 x4 x5 x6 x7 ho hfr;have fld : ∀ W : World, (Instr.field 65 (.agg #[.int .i64 (n : Int), .int .i64 (n : Int), .slice Q q r]) 2).run Tryz.prog W = .ok (.slice Q q r) W := fun W => by kernel_rfl
 exact Xbc
theorem zb0 (n : Nat) (hn : n ≤ 4) (A0 : Option Addr) (c0 : Nat) (A1 : Option Addr) (m1 c1 : Nat) (B0 : Option Addr) (d0 : Nat) (B1 : Option Addr) (k1 d1 : Nat) (x p y s : List Num) (hp : zr n n p) (hs : zr n n s) (a b c d : Num) (w : World) (h0 : zk w A0 n c0 x) (h1 : zk w A1 m1 c1 p) (h2 : zk w B0 n d0 y) (h3 : zk w B1 k1 d1 s) :
  Calls Tryz.prog 92 #[j9 n A0 c0 A1 m1 c1 B0 d0 B1 k1 d1 a b c d, .int .i64 0] w fun e w' => e = .returned (zD n n A1 m1 c1) ∧ Below w.heap.size w w' := by
 have hu := Tryz.underlying76;have hu1 := Tryz.underlying67;have hu2 := Tryz.underlying69;have hu3 := Tryz.underlying65;have hu4 := Tryz.underlying71;have RI := za (fun W => jf n hn A0 c0 A1 m1 c1 B0 d0 B1 k1 d1 p s hp hs h1.1 h3.1 a b c d W);have H0 := za h0;have H1 := za h1;have H2 := za h2;have H3 := za h3;clear h0 h1 h2 h3;obtain ⟨av, al, ah, ab⟩ := a;obtain ⟨bv, bl, bh, bb⟩ := b;obtain ⟨cv, cl, ch, cb⟩ := c
 obtain ⟨dv, dl, dh, db⟩ := d;unfold j9 at RI ⊢;dsimp only at RI ⊢;unfold zD;go_enter Tryz.func92, Tryz.ntmps92;go_wp2_with (refine jj rfl 76 _ rfl _ rfl ?_; intro W9 hW9; have bx9 := At.of_new hW9; have e1 := (bx9.alloc (.cells #[.int .i64 0, .int .i64 0, .slice none 0 0] 65)).cell 1; have e2 := (bx9.alloc (.cells #[.int .i64 0, .int .i64 0, .slice none 0 0] 65)).cell 2; have e3 := (bx9.alloc (.cells #[.int .i64 0, .int .i64 0, .slice none 0 0] 65)).cell 3; have q0 := (At.new W9 65 #[.int .i64 0, .int .i64 0, .slice none 0 0]).cell 0; have f0 := (At.new W9 65 #[.int .i64 0, .int .i64 0, .slice none 0 0]).frozen 0; have q1 := (At.new W9 65 #[.int .i64 0, .int .i64 0, .slice none 0 0]).cell 1; have f1 := (At.new W9 65 #[.int .i64 0, .int .i64 0, .slice none 0 0]).frozen 1; have q2 := (At.new W9 65 #[.int .i64 0, .int .i64 0, .slice none 0 0]).cell 2; have f2 := (At.new W9 65 #[.int .i64 0, .int .i64 0, .slice none 0 0]).frozen 2)
 obtain ⟨rq0, rq1, rq2⟩ := (At.new W9 65 #[.int .i64 (n : Int), .int .i64 (n : Int), .slice A1 m1 c1]).three;have b9 : Below w.heap.size w W9 := by rw [← hW9]; exact zg (Below.refl _ _) _
 exact bodyPost_ret (v := .agg #[.int .i64 (n : Int), .int .i64 (n : Int), .slice A1 m1 c1]) (by simp [results, Tryz.results92, go_sem, rq0, rq1, rq2]) rfl ⟨rfl, b9.alloc b9.size _⟩
theorem zbZ (n : Nat) (hn : n ≤ 4) (A0 : Option Addr) (c0 : Nat) (A1 : Option Addr) (m1 c1 : Nat) (B0 : Option Addr) (d0 : Nat) (B1 : Option Addr) (k1 d1 : Nat) (x p y s : List Num) (hp : zr n n p) (hs : zr n n s) (a b c d : Num) (w : World) (h0 : zk w A0 n c0 x) (h1 : zk w A1 m1 c1 p) (h2 : zk w B0 n d0 y) (h3 : zk w B1 k1 d1 s) :
  Calls Tryz.prog 92 #[j9 n A0 c0 A1 m1 c1 B0 d0 B1 k1 d1 a b c d, .int .i64 1] w fun e w' => e = .returned (zD n n B1 k1 d1) ∧ Below w.heap.size w w' := by
 have hu := Tryz.underlying76;have hu1 := Tryz.underlying67;have hu2 := Tryz.underlying69;have hu3 := Tryz.underlying65;have hu4 := Tryz.underlying71;have RI := za (fun W => jf n hn A0 c0 A1 m1 c1 B0 d0 B1 k1 d1 p s hp hs h1.1 h3.1 a b c d W);have H0 := za h0;have H1 := za h1;have H2 := za h2;have H3 := za h3;clear h0 h1 h2 h3;obtain ⟨av, al, ah, ab⟩ := a;obtain ⟨bv, bl, bh, bb⟩ := b;obtain ⟨cv, cl, ch, cb⟩ := c
 obtain ⟨dv, dl, dh, db⟩ := d;unfold j9 at RI ⊢;dsimp only at RI ⊢;unfold zD;go_enter Tryz.func92, Tryz.ntmps92;go_wp2_with (refine jj rfl 76 _ rfl _ rfl ?_; intro W9 hW9; have bx9 := At.of_new hW9; have e5 := (bx9.alloc (.cells #[.int .i64 0, .int .i64 0, .slice none 0 0] 65)).cell 5; have e6 := (bx9.alloc (.cells #[.int .i64 0, .int .i64 0, .slice none 0 0] 65)).cell 6; have e7 := (bx9.alloc (.cells #[.int .i64 0, .int .i64 0, .slice none 0 0] 65)).cell 7; have q0 := (At.new W9 65 #[.int .i64 0, .int .i64 0, .slice none 0 0]).cell 0; have f0 := (At.new W9 65 #[.int .i64 0, .int .i64 0, .slice none 0 0]).frozen 0; have q1 := (At.new W9 65 #[.int .i64 0, .int .i64 0, .slice none 0 0]).cell 1; have f1 := (At.new W9 65 #[.int .i64 0, .int .i64 0, .slice none 0 0]).frozen 1; have q2 := (At.new W9 65 #[.int .i64 0, .int .i64 0, .slice none 0 0]).cell 2; have f2 := (At.new W9 65 #[.int .i64 0, .int .i64 0, .slice none 0 0]).frozen 2)
 obtain ⟨rq0, rq1, rq2⟩ := (At.new W9 65 #[.int .i64 (n : Int), .int .i64 (n : Int), .slice B1 k1 d1]).three;have b9 : Below w.heap.size w W9 := by rw [← hW9]; exact zg (Below.refl _ _) _
 exact bodyPost_ret (v := .agg #[.int .i64 (n : Int), .int .i64 (n : Int), .slice B1 k1 d1]) (by simp [results, Tryz.results92, go_sem, rq0, rq1, rq2]) rfl ⟨rfl, b9.alloc b9.size _⟩
end
theorem XbB {P : Prop} (h : P := by
 go_wp2_with fail;go_ret;exact ⟨rfl, by first | exact F.out.out | (rw [hg]; exact F.out.out)⟩) : P := h
section
attribute [local go_sem] Oper.semAt_some
def zb5 (a b : Num) : Int := if (a.fine && b.fine) = true then mx (mx (a.l - b.h) (b.l - a.h)) 0 else 0
theorem zgc {v l h : Int} {b : Bool} (e : QN v l h b = true) : -1125899906842624 ≤ l ∧ l ≤ 1125899906842624 ∧ -1125899906842624 ≤ h ∧ h ≤ 1125899906842624 := by
 unfold QN at e;simp only [Bool.and_eq_true] at e;have h1 := JF.mp e.2.1;have h2 := JF.mp e.2.2.1;omega
theorem zeC (a b : Num) (w : World) : Calls Tryz.prog 162 #[a.val, b.val] w fun e w' => e = .returned (.int .i64 (zb5 a b)) ∧ Below w.heap.size w w' := by
 obtain ⟨av, al, ah, ab⟩ := a;obtain ⟨bv, bl, bh, bb⟩ := b;have FA := za (fun W => Jk av al ah ab W);have FB := za (fun W => Jk bv bl bh bb W);have hu := Tryz.underlying71;unfold Num.val zb5 Num.fine;dsimp only;rcases Bool.eq_false_or_eq_true (QN av al ah ab) with ha | ha
 ·rcases Bool.eq_false_or_eq_true (QN bv bl bh bb) with hb | hb
  ·have ba := zgc ha
   have bb' := zgc hb;rw [ha] at FA; rw [hb] at FB; rw [ha, hb];clear ha hb;have e1 : max (max (al - bh) (bl - ah)) 0 = mx (mx (al - bh) (bl - ah)) 0 := by unfold mx; split <;> split <;> omega
   rw [show (if (true && true) = true then mx (mx (al - bh) (bl - ah)) 0 else 0) = max (max (al - bh) (bl - ah)) 0 from e1.symm];clear e1;go_enter Tryz.func162, Tryz.ntmps162;go_wp2_with fail;obtain ⟨W0, hW0⟩ := zc (((w.alloc (.cells #[av, al, ah, ab] 71)).alloc (.cells #[bv, bl, bh, bb] 71)));obtain ⟨bx, b0, hsz⟩ := yW hW0;rw [hW0];clear hW0;have F := za (Off.start b0 hsz);have BX := za bx;clear bx b0 hsz
   obtain ⟨g, hg⟩ := zc (w.heap.size);rw [hg] at F BX
   try simp only [hg]
   try go_wp2_with fail
   refine (FA.out _).mono ?_;rintro e w1 ⟨rfl, hb⟩;replace F := zd F hb;replace BX := ze BX hb;clear hb;have x0 := (BX.out.2.1).cell 0;have x1 := (BX.out.2.1).cell 1;have x2 := (BX.out.2.1).cell 2;have x3 := (BX.out.2.1).cell 3;go_wp2_with fail;refine (FB.out _).mono ?_;rintro e w2 ⟨rfl, hb⟩;replace F := zd F hb;replace BX := ze BX hb;clear hb;clear x0 x1 x2 x3;have x0 := (BX.out.1).cell 0;have x1 := (BX.out.1).cell 1
   have x2 := (BX.out.1).cell 2;have x3 := (BX.out.1).cell 3;have y0 := (BX.out.2.1).cell 0;have y1 := (BX.out.2.1).cell 1;have y2 := (BX.out.2.1).cell 2;have y3 := (BX.out.2.1).cell 3;go_wp2_with fail
   all_goals (go_ret; exact ⟨by first | rfl | (refine congrArg Ending.returned (congrArg (Value.int IntKind.i64) ?_); omega), by first | exact F.out.out | (rw [hg]; exact F.out.out)⟩)
  ·rw [ha] at FA; rw [hb] at FB; rw [ha, hb]
   clear ha hb;simp only [Bool.and_false, Bool.false_eq_true, if_false];go_enter Tryz.func162, Tryz.ntmps162;go_wp2_with fail;obtain ⟨W0, hW0⟩ := zc (((w.alloc (.cells #[av, al, ah, ab] 71)).alloc (.cells #[bv, bl, bh, bb] 71)));obtain ⟨bx, b0, hsz⟩ := yW hW0;rw [hW0];clear hW0;have F := za (Off.start b0 hsz);have BX := za bx;clear bx b0 hsz;obtain ⟨g, hg⟩ := zc (w.heap.size);rw [hg] at F BX
   try simp only [hg]
   try go_wp2_with fail
   refine (FA.out _).mono ?_;rintro e w1 ⟨rfl, hb⟩;replace F := zd F hb;replace BX := ze BX hb;clear hb;have x0 := (BX.out.2.1).cell 0;have x1 := (BX.out.2.1).cell 1;have x2 := (BX.out.2.1).cell 2;have x3 := (BX.out.2.1).cell 3;go_wp2_with fail;refine (FB.out _).mono ?_;rintro e w2 ⟨rfl, hb⟩;replace F := zd F hb;replace BX := ze BX hb;clear hb;clear x0 x1 x2 x3;exact XbB
 ·rw [ha] at FA; rw [ha]
  clear ha;simp only [Bool.false_and, Bool.false_eq_true, if_false];go_enter Tryz.func162, Tryz.ntmps162;go_wp2_with fail;obtain ⟨W0, hW0⟩ := zc (((w.alloc (.cells #[av, al, ah, ab] 71)).alloc (.cells #[bv, bl, bh, bb] 71)));obtain ⟨bx, b0, hsz⟩ := yW hW0;rw [hW0];clear hW0;have F := za (Off.start b0 hsz);have BX := za bx;clear bx b0 hsz;obtain ⟨g, hg⟩ := zc (w.heap.size);rw [hg] at F BX
  try simp only [hg]
  try go_wp2_with fail
  refine (FA.out _).mono ?_;rintro e w1 ⟨rfl, hb⟩;replace F := zd F hb;replace BX := ze BX hb;clear hb;exact XbB
end
end Go.Proofs.YtcoiklclbljjeaaGreatDoor.L
