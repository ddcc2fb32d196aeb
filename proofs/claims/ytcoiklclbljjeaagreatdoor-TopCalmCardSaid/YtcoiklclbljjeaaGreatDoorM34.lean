/- Lemmas of the card's proof. -/
import Derived.Test.YtcoiklclbljjeaaGreatDoorM33
set_option linter.unusedVariables false
set_option linter.unusedSimpArgs false
set_option maxRecDepth 100000
set_option maxHeartbeats 16000000
namespace Go.Proofs.YtcoiklclbljjeaaGreatDoor.L
open Go.RowKit
theorem Xal {P : Prop} (h : P := by
 intro v1 w3 hown3 hgrow3 hat3;replace hgrow3 := zeT hgrow3;replace hat3 : v1.ownBlock = v.ownBlock ∨ v1.ownBlock = some W2.heap.size := hat3;refine hK _ _ (zI ((zB.refl _ _).grown (hgrow3) (fun k e => .inl (qK k e)))) ?_;clear hK K;have hSW : ∀ k, S k → k < W2.heap.size := fun k hk => Nat.lt_of_lt_of_le (hS k hk) hsW;have K3 := za ((KB.refl S W2).grown hSW hgrow3 hrowS);have X3 := za (H.out.box.grown hgrow3 hgo)
 have F3 := za (ju (B := V0.heap.size) H.out.own hgrow3)
 have hS3 : ∀ q, v1.ownBlock = some q → ¬ S q := fun q e => by
  rcases hat3 with e' | e'
  ·exact hrowS q (by rw [← e']; exact e)
  ·rw [e'] at e; cases e; exact fun hk => by have := hS _ hk; omega
 rw [← Qj] at hown3;have O3 := za hown3;clear hown3 hgrow3 hat3;obtain ⟨Q5, n5, c5, rfl⟩ := zO O3.out;have e0 := X3.out.cell 0;have z0 := X3.out.frozen 0;refine zX rfl (fun K hK => ?_);go_simp;refine hK _ _ ?_;clear hK K;have hnb : ∀ q, (Value.slice Q5 n5 c5).ownBlock = some q → q ≠ h := fun q e e' => zaw O3.out X3.out (by rw [e, e']);refine ⟨F3.out.trans (zY _ _ _ _), .slice Q5 n5 c5, X3.out.set 0 _ rfl, O3.out.kept (ji w3 h 0 _) ?_, (H.out.kb.trans K3.out).set hSo _ _, hS3⟩
 cases e : (Value.slice Q5 n5 c5).ownBlock with
 | none => exact .inl rfl
 | some q => exact .inr (fun e' => hnb q e (by injection e'))) : P := h
theorem Xav {P : Prop} (h : P := by
 rintro D r' W hD hrr ⟨v, hv⟩ hK;rw [show r' = n from hrr] at hv;have HK := za hK;have H := za hv;have hD' := za hD;obtain ⟨Q1, n1, c1, rfl⟩ := zO hv.own;clear hv hK hD;have s0 := H.out.box.cell 0;have hDl : D < W.heap.size := (Array.getElem?_eq_some_iff.1 HK.out).1;have BB := za (H.out.kb.below (fun k hk => hSw k hk));gi_wp2_with fail;have hWW := (hBw.trans BB.out).size;refine ⟨by simp, .inl ⟨_, _, rfl, run_takeDeferred HK.out, ?_⟩⟩
 exact ⟨.slice Q1 n1 c1, (by simp only [results, Tryz.results59]; simp [go_sem]), Q1, n1, c1, rfl, Qq (jM H.out.own (by omega)) (.deferred none) HK.out rfl, qA (hBw.trans BB.out) hWW (by have := hD'.out; omega) _⟩) : P := h
section
attribute [local go_sem] Oper.semAt_some yI
theorem Qi {F : Fence} {n : Nat} {P : Program} {ops : Array Oper} {rest : List Oper} {o : Oper} {a : Act} {Q : Exit → Act → World → Prop} {w : World} (hF : zau F) (hgd : o.guard = none) (t : TypeId) (x : Operand) (ho : o.op = .box t x) (cs : Array Value) (hv : a.eval x = .agg cs)
  (h : ∀ W', w.alloc (.cells cs t) = W' → wpListIn F n P ops Q rest (a.put o.dst (.pointer (some ⟨w.heap.size, 0, none⟩))) W') : wpListIn F n P ops Q (o :: rest) a w :=
 jt hF (by unfold qP; rw [ho]) hgd fun K hK => by
  exact Xbb
theorem j6 {F : Fence} {n : Nat} {P : Program} {ops : Array Oper} {rest : List Oper} {o : Oper} {a : Act} {Q : Exit → Act → World → Prop} {w : World} (hF : zau F) (hgd : o.guard = none) (t : TypeId) (x : Operand) (ho : o.op = .load t x) (b i : Nat) (cs : Array Value) (hx : a.eval x = .pointer (some ⟨b, i, none⟩))
  (hr : (Instr.loadAt t (.pointer (some ⟨b, i, none⟩))).run P w = .ok (.agg cs) w) (h : wpListIn F n P ops Q rest (a.put o.dst (.agg cs)) w) : wpListIn F n P ops Q (o :: rest) a w :=
 jt hF (by unfold qP; rw [ho]) hgd fun K hK => by
  exact Xbu
structure zeL (S : Nat → Prop) (Wb : World) (B : Nat) (go : Nat) (ys : List Num) (v : Value) (W : World) : Prop where
 box : At W go 63 #[v]
 own : zF W B v ys
 kb : KB S Wb W
 row : ∀ k, v.ownBlock = some k → ¬ S k
theorem zeL.grown {S : Nat → Prop} {Wb W W' : World} {B go : Nat} {ys : List Num} {v : Value} {row : Option Nat} (h : zeL S Wb B go ys v W) (hS : ∀ k, S k → k < Wb.heap.size) (hgr : W.grownBy W' row) (hr : ∀ r, row = some r → Wb.heap.size ≤ r ∧ ∃ o : Obj, W.heap[r]? = some o ∧ o.isCells = false) : zeL S Wb B go ys v W' :=
 ⟨qx h.box hgr (fun r e => (hr r e).2), jL h.own hgr (fun r e => (hr r e).2), QZ h.kb hS (Nat.le_refl _) hgr (fun r e => (hr r e).1), h.row⟩
theorem zeL.below {S : Nat → Prop} {Wb W W' : World} {B go : Nat} {ys : List Num} {v : Value} (h : zeL S Wb B go ys v W) (hS : ∀ k, S k → k < Wb.heap.size) (hb : Below W.heap.size W W') : zeL S Wb B go ys v W' :=
 ⟨h.box.below hb, h.own.below hb, h.kb.call hS hb, h.row⟩
theorem zaw {w : World} {B g : Nat} {v u : Value} {xs : List Num} (h : zF w B v xs) (hb : At w g 63 #[u]) (e : v.ownBlock = some g) : False := by
 rcases h.2 with ⟨rfl, _⟩ | ⟨q, cap, cur, rfl, _, hq, _⟩
 ·cases e
 ·have : q = g := by simpa [Value.ownBlock] using e
  subst this;rw [hb] at hq;cases hq
def j1 (n : Nat) (x m : List Num) (i : Nat) : List Num := x ++ (List.range i).flatMap fun j => (qt n m j).take (j + 1)
def jk (n : Nat) (x m : List Num) : List Num := j1 n x m n
theorem Qj (n : Nat) (x m : List Num) (i : Nat) : j1 n x m (i + 1) = j1 n x m i ++ (qt n m i).take (i + 1) := by unfold j1; rw [List.range_succ, List.flatMap_append]; simp
theorem QO {n : Nat} {x m : List Num} (h : zr n n m) {i : Nat} (hi : i ≤ n) : (j1 n x m i).length ≤ x.length + i * n := by
 induction i with
 | zero => simp [j1]
 | succ i ih =>
  rw [Qj, List.length_append, List.length_take, qf h (by omega), Nat.add_mul, Nat.one_mul];have := ih (by omega);omega
theorem zdb (n : Nat) (hn : n ≤ 4) (A0 : Option Addr) (c0 : Nat) (A1 : Option Addr) (m1 c1 : Nat) (B0 : Option Addr) (d0 : Nat) (B1 : Option Addr) (k1 d1 : Nat) (x p y s : List Num) (hp : zr n n p) (hs : zr n n s) (a b c d : Num) (w : World) (h0 : zk w A0 n c0 x) (h1 : zk w A1 m1 c1 p) (h2 : zk w B0 n d0 y) (h3 : zk w B1 k1 d1 s) :
  Calls Tryz.prog 59 #[j9 n A0 c0 A1 m1 c1 B0 d0 B1 k1 d1 a b c d, .int .i64 0] w (qT (jk n x p) w) := by
 have q63 : ∀ (w : World) (a : Option Addr) (n c n' c' : Nat), (binOp .eql 63 (.slice a n c) (.slice none n' c')).run Tryz.prog w = .ok a.isNone w := fun w a n c n' c' => Lib.run_eql_slice_nil w _ _ a n c n' c' Tryz.underlying63;have hn1 := hp.r1;have ST := za (fun W h0 h1 h2 h3 => Qu n hn A0 c0 A1 m1 c1 B0 d0 B1 k1 d1 x p y s hp hs a b c d W h0 h1 h2 h3);have MT := za (fun W h0 h1 h2 h3 => zb0 n hn A0 c0 A1 m1 c1 B0 d0 B1 k1 d1 x p y s hp hs a b c d W h0 h1 h2 h3)
 have AL := za (fun W => vy n n A1 m1 c1 W);unfold zD at MT AL;have hu := Tryz.underlying76;have hu1 := Tryz.underlying67;have hu2 := Tryz.underlying69;have hu3 := Tryz.underlying65;have hu4 := Tryz.underlying71;have H0 := za h0;have H1 := za h1;have H2 := za h2;have H3 := za h3;clear h0 h1 h2 h3;obtain ⟨av, al, ah, ab⟩ := a;obtain ⟨bv, bl, bh, bb⟩ := b;obtain ⟨cv, cl, ch, cb⟩ := c;obtain ⟨dv, dl, dh, db⟩ := d
 unfold j9 at ST MT ⊢;dsimp only at ST MT ⊢;refine (callsIn_wide (n := 9)).1 ?_;refine callsIn_of_wp_marks Tryz.func59 rfl trivial ?_ rfl;simp only [Tryz.ntmps59, List.size_toArray, List.length_cons, List.length_nil, Nat.reduceAdd, Nat.reduceSub, Array.replicate_succ, Array.replicate_zero, List.push_toArray, List.append_toArray, List.nil_append, List.cons_append];gi_wp2_with (first | (refine Qi qW rfl 76 _ rfl _ rfl ?_; intro W9 hW9; have bx9 := At.of_new hW9) | refine j6 qW rfl 76 _ rfl _ _ _ rfl (bx9.load76 rfl) ?_)
 clear bx9;subst hW9;obtain ⟨W0, hW0⟩ := zc ((w.alloc (.cells #[.slice A0 n c0, .int .i64 (n : Int), .int .i64 (n : Int), .slice A1 m1 c1, .slice B0 n d0, .int .i64 (n : Int), .int .i64 (n : Int), .slice B1 k1 d1, av, al, ah, ab, bv, bl, bh, bb, cv, cl, ch, cb, dv, dl, dh, db] 76)));obtain ⟨bx, b0, hsz⟩ := zV hW0;rw [hW0];clear hW0;have F := za (((((Off.start b0 hsz).argN b0 (H0.out)).argN b0 (H1.out)).argN b0 (H2.out)).argN b0 (H3.out))
 have BX := za bx;clear bx b0 hsz;obtain ⟨g, hg⟩ := zc (w.heap.size);rw [hg] at F BX
 try simp only [hg]
 refine (zC 8 (ST.out _ F.out.out.1.1.1.2 F.out.out.1.1.2 F.out.out.1.2 F.out.out.2)).mono ?_;rintro e w1 ⟨Q, q, r, rfl, ho, hb⟩;obtain rfl : n = q := by have := zL ho; have := H0.out.1; omega
 replace F := zd F hb;replace BX := ze BX hb;have HO := za (jM ho (show g + 1 ≤ W0.heap.size from F.out.up_));clear hb ho
 obtain ⟨qb, rfl⟩ : ∃ qb, Q = some ⟨qb, 0, none⟩ := by
  obtain ⟨qb, cap, e, _⟩ := qu HO.out (by have := H0.out.1; omega);injection e with e1 e2 e3;exact ⟨qb, e1⟩
 have bx9 := (BX.out.1).alloc (.cells #[.slice (some ⟨qb, 0, none⟩) n r] 63);gi_wp2_with (refine j6 qW rfl 76 _ rfl _ _ _ rfl (bx9.load76 rfl) ?_)
 clear bx9;have hql := (World.ownsRow.lt HO.out qb rfl).2;have hqg := (World.ownsRow.lt HO.out qb rfl).1;replace F := za F.out.now;obtain ⟨Xh, hXh⟩ := zc (w1.alloc (.cells #[.slice (some ⟨qb, 0, none⟩) n r] 63));obtain ⟨bx, b0, hsz⟩ := zV hXh;rw [hXh];have lh := F.out.hiw;replace F := zd F b0;replace BX := ze BX b0;replace HO := za (HO.out.below b0);have O := za bx.1;obtain ⟨h, hh⟩ := zc (w1.heap.size)
 rw [hh] at F lh O hql
 try simp only [hh]
 clear bx b0 hsz hh hXh;refine (zC 8 (MT.out _ F.out.out.1.1.1.2 F.out.out.1.1.2 F.out.out.1.2 F.out.out.2)).mono ?_;rintro e w2 ⟨rfl, hb⟩;replace F := zd F hb;replace BX := ze BX hb;replace HO := za (HO.out.below hb);replace O := za (O.out.below hb);clear hb;gi_wp2_with fail;refine (zC 8 (AL.out _)).mono ?_;rintro e w3 ⟨rfl, rfl⟩;have hoi := O.out.lt;have hqi := (World.ownsRow.lt HO.out qb rfl).2
 replace F := za F.out.now;obtain ⟨Xhi, hXhi⟩ := zc (w2.alloc (.cells #[.int .i64 (n : Int), .int .i64 (n : Int), .slice A1 m1 c1] 65));obtain ⟨bx, b0, hsz⟩ := zV hXhi;rw [hXhi];have lhi := F.out.hiw;replace F := zd F b0;replace BX := ze BX b0;replace HO := za (HO.out.below b0);replace O := za (O.out.below b0);have I := za bx.1;obtain ⟨hi, hhi⟩ := zc (w2.heap.size);rw [hhi] at F lhi I hoi hqi
 try simp only [hhi]
 clear bx b0 hsz hhi hXhi
 try simp only [hhi]
 obtain ⟨V0, hV0⟩ := zc (Xhi);rw [hV0] at F BX HO O I ⊢;clear hV0;have hol := O.out.lt;have hil := I.out.lt;obtain ⟨S, hSd⟩ : ∃ S : Nat → Prop, S = fun k => k < V0.heap.size ∧ k ≠ h ∧ k ≠ qb := ⟨_, rfl⟩
 have hS : ∀ k, S k → k < V0.heap.size := fun k h => by rw [hSd] at h; exact h.1
 have hSo : ¬ S h := fun h => by rw [hSd] at h; exact h.2.1 rfl
 have hSq : ¬ S qb := fun h => by rw [hSd] at h; exact h.2.2 rfl
 have hSi : ∀ k, k < V0.heap.size → k ≠ h → k ≠ qb → S k := fun k h1 h2 h3 => by rw [hSd]; exact ⟨h1, h2, h3⟩
 clear hSd;have hiw := F.out.hiw;have hqg := (World.ownsRow.lt HO.out qb rfl).1;have hSw : ∀ k, k < w.heap.size → S k := fun k hk => hSi k (by omega) (by omega) (by omega);have hBw : Below w.heap.size w V0 := by rw [hg]; exact F.out.out.1.1.1.1
 gi_wp2_with fail
 refine jI rfl (by decide) (gf := 124) (lb := #[.pointer (some ⟨hi, 0, none⟩)]) rfl trivial j7
  (yG 6 S hi n n A1 m1 c1 p hp V0 (hSi _ (by omega) (by omega) (by omega)) I.out (fun W' q => q.nums H1.out hBw hSw)) (fun s W0 args s' W1 h => (Vf.size _ _ _ _ _ h).trans rfl)
  (fun i W => ∃ v, zeL S V0 (g + 1) h (j1 n x p i) v W) (fun _ _ ⟨_, k⟩ => k.kb) (fun _ _ _ _ ⟨v, k⟩ hgr hr => ⟨v, k.grown hS hgr hr⟩) (fun _ _ _ ⟨v, k⟩ hb => ⟨v, k.below hS hb⟩)
  ⟨.slice (some ⟨qb, 0, none⟩) n r, O.out, by simpa [j1] using HO.out, KB.refl S V0, fun k e => by cases e; exact hSq⟩ ?round ?done
 case round =>
  rintro lp i i' args V1 V2 hlp ⟨v, hv⟩ ⟨rl, hrl⟩ hb ⟨hir, rfl, row, rfl, hrow⟩;have H1 := za (hv.below hS hb);have HR := za hrow;obtain ⟨ra, rn, rc, rfl⟩ := zO hrow;clear hv hrow hrl hb;gi_wp2_with fail;refine ⟨KeepsFrom.refl _ _, fun W2 hgr ho _ => ?_⟩;have H := za (H1.out.grown hS hgr (fun r e => by cases e; exact ⟨hlp, ho⟩));have HR2 := za (jL HR.out hgr (fun r e => by cases e; exact ho)).nums
  have hrn : n = rn := by have := zL HR.out; rw [qf hp hir] at this; exact this.symm
  obtain ⟨rb, rfl⟩ : ∃ rb, ra = some ⟨rb, 0, none⟩ := by
   obtain ⟨rb, cap, e, _⟩ := qu HR.out (by rw [qf hp hir]; omega);injection e with e1 e2 e3;exact ⟨rb, e1⟩
  have NT := za (HR2.out.take (i + 1) (by omega));have hrc : rn ≤ rc := HR2.out.2.1;have o0 := H.out.box.cell 0;have hgo : some h ≠ v.ownBlock := fun e => zaw H.out.own H.out.box e.symm;have hsW := H.out.kb.size
  have hll : (j1 n x p i).length ≤ 600 := by
   have h1 := QO (x := x) hp (show i ≤ n by omega);have h2 : i * n ≤ 4 * 4 := Nat.mul_le_mul (by omega) hn;have h3 := H0.out.1;omega
  have hrowS := H.out.row;clear hgr ho H1;gi_wp2_with fail;refine jK (by kernel_rfl) (by kernel_rfl) (by rintro ⟨a, w, h⟩; exact h) (jw v.ownBlock.toList [0, 1, 2, 3, 4] [5, 6] (.cons rfl (.cons rfl (.cons rfl (.cons rfl (.cons rfl .nil))))) (.cons rfl (.cons rfl .nil)) (by kernel_rfl) (fun c a d v w h => h) ?_);have ko0 := fun x => But.cell o0 (zN hgo) x
  repeat (go_big_quiet_step (fail))
  refine wpQuiet_nil ?_;clear ko0;refine zp rfl (fun K hK => ?_);refine js (.tmp 19) (.tmp 23) rfl (g + 1) v (j1 n x p i) _ (some ⟨rb, 0, none⟩) (i + 1) rc rfl H.out.own.drew rfl (by omega) NT.out.drew (by omega) (by show g + 1 ≤ W2.heap.size; omega) ?_;exact Xal
 case done =>
  exact Xav
theorem zda (n : Nat) (hn : n ≤ 4) (A0 : Option Addr) (c0 : Nat) (A1 : Option Addr) (m1 c1 : Nat) (B0 : Option Addr) (d0 : Nat) (B1 : Option Addr) (k1 d1 : Nat) (x p y s : List Num) (hp : zr n n p) (hs : zr n n s) (a b c d : Num) (w : World) (h0 : zk w A0 n c0 x) (h1 : zk w A1 m1 c1 p) (h2 : zk w B0 n d0 y) (h3 : zk w B1 k1 d1 s) :
  Calls Tryz.prog 59 #[j9 n A0 c0 A1 m1 c1 B0 d0 B1 k1 d1 a b c d, .int .i64 1] w (qT (jk n y s) w) := by
 have q63 : ∀ (w : World) (a : Option Addr) (n c n' c' : Nat), (binOp .eql 63 (.slice a n c) (.slice none n' c')).run Tryz.prog w = .ok a.isNone w := fun w a n c n' c' => Lib.run_eql_slice_nil w _ _ a n c n' c' Tryz.underlying63;have hn1 := hp.r1;have ST := za (fun W h0 h1 h2 h3 => YR n hn A0 c0 A1 m1 c1 B0 d0 B1 k1 d1 x p y s hp hs a b c d W h0 h1 h2 h3);have MT := za (fun W h0 h1 h2 h3 => zbZ n hn A0 c0 A1 m1 c1 B0 d0 B1 k1 d1 x p y s hp hs a b c d W h0 h1 h2 h3)
 have AL := za (fun W => vy n n B1 k1 d1 W);unfold zD at MT AL;have hu := Tryz.underlying76;have hu1 := Tryz.underlying67;have hu2 := Tryz.underlying69;have hu3 := Tryz.underlying65;have hu4 := Tryz.underlying71;have H0 := za h0;have H1 := za h1;have H2 := za h2;have H3 := za h3;clear h0 h1 h2 h3;obtain ⟨av, al, ah, ab⟩ := a;obtain ⟨bv, bl, bh, bb⟩ := b;obtain ⟨cv, cl, ch, cb⟩ := c;obtain ⟨dv, dl, dh, db⟩ := d
 unfold j9 at ST MT ⊢;dsimp only at ST MT ⊢;refine (callsIn_wide (n := 9)).1 ?_;refine callsIn_of_wp_marks Tryz.func59 rfl trivial ?_ rfl;simp only [Tryz.ntmps59, List.size_toArray, List.length_cons, List.length_nil, Nat.reduceAdd, Nat.reduceSub, Array.replicate_succ, Array.replicate_zero, List.push_toArray, List.append_toArray, List.nil_append, List.cons_append];gi_wp2_with (first | (refine Qi qW rfl 76 _ rfl _ rfl ?_; intro W9 hW9; have bx9 := At.of_new hW9) | refine j6 qW rfl 76 _ rfl _ _ _ rfl (bx9.load76 rfl) ?_)
 clear bx9;subst hW9;obtain ⟨W0, hW0⟩ := zc ((w.alloc (.cells #[.slice A0 n c0, .int .i64 (n : Int), .int .i64 (n : Int), .slice A1 m1 c1, .slice B0 n d0, .int .i64 (n : Int), .int .i64 (n : Int), .slice B1 k1 d1, av, al, ah, ab, bv, bl, bh, bb, cv, cl, ch, cb, dv, dl, dh, db] 76)));obtain ⟨bx, b0, hsz⟩ := zV hW0;rw [hW0];clear hW0;have F := za (((((Off.start b0 hsz).argN b0 (H0.out)).argN b0 (H1.out)).argN b0 (H2.out)).argN b0 (H3.out))
 have BX := za bx;clear bx b0 hsz;obtain ⟨g, hg⟩ := zc (w.heap.size);rw [hg] at F BX
 try simp only [hg]
 refine (zC 8 (ST.out _ F.out.out.1.1.1.2 F.out.out.1.1.2 F.out.out.1.2 F.out.out.2)).mono ?_;rintro e w1 ⟨Q, q, r, rfl, ho, hb⟩;obtain rfl : n = q := by have := zL ho; have := H2.out.1; omega
 replace F := zd F hb;replace BX := ze BX hb;have HO := za (jM ho (show g + 1 ≤ W0.heap.size from F.out.up_));clear hb ho
 obtain ⟨qb, rfl⟩ : ∃ qb, Q = some ⟨qb, 0, none⟩ := by
  obtain ⟨qb, cap, e, _⟩ := qu HO.out (by have := H2.out.1; omega);injection e with e1 e2 e3;exact ⟨qb, e1⟩
 have bx9 := (BX.out.1).alloc (.cells #[.slice (some ⟨qb, 0, none⟩) n r] 63);gi_wp2_with (refine j6 qW rfl 76 _ rfl _ _ _ rfl (bx9.load76 rfl) ?_)
 clear bx9;have hql := (World.ownsRow.lt HO.out qb rfl).2;have hqg := (World.ownsRow.lt HO.out qb rfl).1;replace F := za F.out.now;obtain ⟨Xh, hXh⟩ := zc (w1.alloc (.cells #[.slice (some ⟨qb, 0, none⟩) n r] 63));obtain ⟨bx, b0, hsz⟩ := zV hXh;rw [hXh];have lh := F.out.hiw;replace F := zd F b0;replace BX := ze BX b0;replace HO := za (HO.out.below b0);have O := za bx.1;obtain ⟨h, hh⟩ := zc (w1.heap.size)
 rw [hh] at F lh O hql
 try simp only [hh]
 clear bx b0 hsz hh hXh;refine (zC 8 (MT.out _ F.out.out.1.1.1.2 F.out.out.1.1.2 F.out.out.1.2 F.out.out.2)).mono ?_;rintro e w2 ⟨rfl, hb⟩;replace F := zd F hb;replace BX := ze BX hb;replace HO := za (HO.out.below hb);replace O := za (O.out.below hb);clear hb;gi_wp2_with fail;refine (zC 8 (AL.out _)).mono ?_;rintro e w3 ⟨rfl, rfl⟩;have hoi := O.out.lt;have hqi := (World.ownsRow.lt HO.out qb rfl).2
 replace F := za F.out.now;obtain ⟨Xhi, hXhi⟩ := zc (w2.alloc (.cells #[.int .i64 (n : Int), .int .i64 (n : Int), .slice B1 k1 d1] 65));obtain ⟨bx, b0, hsz⟩ := zV hXhi;rw [hXhi];have lhi := F.out.hiw;replace F := zd F b0;replace BX := ze BX b0;replace HO := za (HO.out.below b0);replace O := za (O.out.below b0);have I := za bx.1;obtain ⟨hi, hhi⟩ := zc (w2.heap.size);rw [hhi] at F lhi I hoi hqi
 try simp only [hhi]
 clear bx b0 hsz hhi hXhi
 try simp only [hhi]
 obtain ⟨V0, hV0⟩ := zc (Xhi);rw [hV0] at F BX HO O I ⊢;clear hV0;have hol := O.out.lt;have hil := I.out.lt;obtain ⟨S, hSd⟩ : ∃ S : Nat → Prop, S = fun k => k < V0.heap.size ∧ k ≠ h ∧ k ≠ qb := ⟨_, rfl⟩
 have hS : ∀ k, S k → k < V0.heap.size := fun k h => by rw [hSd] at h; exact h.1
 have hSo : ¬ S h := fun h => by rw [hSd] at h; exact h.2.1 rfl
 have hSq : ¬ S qb := fun h => by rw [hSd] at h; exact h.2.2 rfl
 have hSi : ∀ k, k < V0.heap.size → k ≠ h → k ≠ qb → S k := fun k h1 h2 h3 => by rw [hSd]; exact ⟨h1, h2, h3⟩
 clear hSd;have hiw := F.out.hiw;have hqg := (World.ownsRow.lt HO.out qb rfl).1;have hSw : ∀ k, k < w.heap.size → S k := fun k hk => hSi k (by omega) (by omega) (by omega);have hBw : Below w.heap.size w V0 := by rw [hg]; exact F.out.out.1.1.1.1
 gi_wp2_with fail
 refine jI rfl (by decide) (gf := 124) (lb := #[.pointer (some ⟨hi, 0, none⟩)]) rfl trivial j7
  (yG 6 S hi n n B1 k1 d1 s hs V0 (hSi _ (by omega) (by omega) (by omega)) I.out (fun W' q => q.nums H3.out hBw hSw)) (fun s W0 args s' W1 h => (Vf.size _ _ _ _ _ h).trans rfl)
  (fun i W => ∃ v, zeL S V0 (g + 1) h (j1 n y s i) v W) (fun _ _ ⟨_, k⟩ => k.kb) (fun _ _ _ _ ⟨v, k⟩ hgr hr => ⟨v, k.grown hS hgr hr⟩) (fun _ _ _ ⟨v, k⟩ hb => ⟨v, k.below hS hb⟩)
  ⟨.slice (some ⟨qb, 0, none⟩) n r, O.out, by simpa [j1] using HO.out, KB.refl S V0, fun k e => by cases e; exact hSq⟩ ?round ?done
 case round =>
  rintro lp i i' args V1 V2 hlp ⟨v, hv⟩ ⟨rl, hrl⟩ hb ⟨hir, rfl, row, rfl, hrow⟩;have H1 := za (hv.below hS hb);have HR := za hrow;obtain ⟨ra, rn, rc, rfl⟩ := zO hrow;clear hv hrow hrl hb;gi_wp2_with fail;refine ⟨KeepsFrom.refl _ _, fun W2 hgr ho _ => ?_⟩;have H := za (H1.out.grown hS hgr (fun r e => by cases e; exact ⟨hlp, ho⟩));have HR2 := za (jL HR.out hgr (fun r e => by cases e; exact ho)).nums
  have hrn : n = rn := by have := zL HR.out; rw [qf hs hir] at this; exact this.symm
  obtain ⟨rb, rfl⟩ : ∃ rb, ra = some ⟨rb, 0, none⟩ := by
   obtain ⟨rb, cap, e, _⟩ := qu HR.out (by rw [qf hs hir]; omega);injection e with e1 e2 e3;exact ⟨rb, e1⟩
  have NT := za (HR2.out.take (i + 1) (by omega));have hrc : rn ≤ rc := HR2.out.2.1;have o0 := H.out.box.cell 0;have hgo : some h ≠ v.ownBlock := fun e => zaw H.out.own H.out.box e.symm;have hsW := H.out.kb.size
  have hll : (j1 n y s i).length ≤ 600 := by
   have h1 := QO (x := y) hs (show i ≤ n by omega);have h2 : i * n ≤ 4 * 4 := Nat.mul_le_mul (by omega) hn;have h3 := H2.out.1;omega
  have hrowS := H.out.row;clear hgr ho H1;gi_wp2_with fail;refine jK (by kernel_rfl) (by kernel_rfl) (by rintro ⟨a, w, h⟩; exact h) (jw v.ownBlock.toList [0, 1, 2, 3, 4] [5, 6] (.cons rfl (.cons rfl (.cons rfl (.cons rfl (.cons rfl .nil))))) (.cons rfl (.cons rfl .nil)) (by kernel_rfl) (fun c a d v w h => h) ?_);have ko0 := fun x => But.cell o0 (zN hgo) x
  repeat (go_big_quiet_step (fail))
  refine wpQuiet_nil ?_;clear ko0;refine zp rfl (fun K hK => ?_);refine js (.tmp 19) (.tmp 23) rfl (g + 1) v (j1 n y s i) _ (some ⟨rb, 0, none⟩) (i + 1) rc rfl H.out.own.drew rfl (by omega) NT.out.drew (by omega) (by show g + 1 ≤ W2.heap.size; omega) ?_;exact Xal
 case done =>
  exact Xav
end
theorem zb1 (x : Num) (w : World) : Calls Tryz.prog 56 #[x.val] w fun e w' => e = .returned x.bad ∧ Below w.heap.size w w' := by
 have hu := Tryz.underlying71;obtain ⟨xv, xl, xh, xb⟩ := x;unfold Num.val;dsimp only;go_enter Tryz.func56, Tryz.ntmps56;go_wp2_with fail;have A0 := za (At.new w 71 #[xv, xl, xh, xb]);have B0 := za (zg (Below.refl w.heap.size w) (.cells #[xv, xl, xh, xb] 71));obtain ⟨W0, hW0⟩ := zc ((w.alloc (.cells #[xv, xl, xh, xb] 71)));have hWg := za (show W0.heap.size = w.heap.size + 1 by rw [← hW0]; simp);rw [hW0] at A0 B0 ⊢
 clear hW0;obtain ⟨g, hg⟩ := zc (w.heap.size);rw [hg] at A0 B0 hWg
 try simp only [hg]
 obtain ⟨x0, x1, x2, x3⟩ := A0.out.four;exact XaC
theorem zam (A : Option Addr) (n c : Nat) (xs : List Num) (hn : n ≤ 1000000) (w : World) (hx : zk w A n c xs) :
  Calls Tryz.prog 90 #[.slice A n c, .func (.func 56) #[] #[]] w fun e w' => (∃ r : Int, e = .returned r ∧ -1 ≤ r ∧ r ≤ 1000000 ∧ decide (0 ≤ r) = xs.any Num.bad) ∧ Below w.heap.size w w' := by
 have HX := za hx;have LX := za hx.1;have hcap := hx.2.1;clear hx;have hu := Tryz.underlying71;go_enter Tryz.func90, Tryz.ntmps90;go_wp2_with fail
 go_loopw [4, 5, 8] (fun v _ i wr => ∃ k : Nat, k ≤ n ∧ i = .int .i64 k ∧ Hid ((xs.take k).any Num.bad = false) ∧ Hid (Below w.heap.size w wr)) (fun _ _ i _ => n - (intOf i).toNat)
 case atStart => exact ⟨0, by omega, rfl, by simp [Hid], za (Below.refl _ _)⟩
 case round =>
  obtain ⟨k, hk, rfl, HK, HB⟩ := hrel
  by_cases hlt : k < n
  ·obtain ⟨b, o, x, rfl, hxk, x0, x1, x2, x3⟩ := (HX.out.below HB.out).at_ hlt
   have C := za (fun W => zb1 x W);have HA0 := za (fun h : x.bad = true => (List.any_eq_true (p := Num.bad) (l := xs)).2 ⟨x, List.mem_of_getElem? hxk, h⟩);have HA1 := za (fun h : x.bad = false => show (xs.take (k + 1)).any Num.bad = false by rw [List.take_add_one, hxk]; simp [HK.out, h]);obtain ⟨xv, xl, xh, xb⟩ := x;unfold Num.val at C;dsimp only at C HA0 HA1 x0 x1 x2 x3;clear hxk;go_wp2_with fail
   refine (C.out _).mono ?_;cases xb with
   | true =>
    have HA := za (HA0.out rfl);rintro e w' ⟨rfl, hb⟩;have HB2 := za (zj HB.out hb);clear hb x0 x1 x2 x3 HA0 HA1;go_wp2_with fail;go_ret;exact ⟨⟨k, rfl, by omega, by omega, by rw [HA.out]; simp⟩, HB2.out⟩
   | false =>
    have HA := za (HA1.out rfl);rintro e w' ⟨rfl, hb⟩;have HB2 := za (zj HB.out hb);clear hb x0 x1 x2 x3 HA0 HA1 HK;go_wp2_with fail;go_roundw
    case rel => exact ⟨k + 1, by omega, by go_num, HA, HB2⟩
    case measure => simp [intOf]; omega
  ·have e : xs.take k = xs := List.take_of_length_le (by rw [LX.out]; omega)
   have HK2 := za (e ▸ HK.out);clear e HK;go_wp2_with fail;go_ret;exact ⟨⟨-1, rfl, by omega, by omega, by rw [HK2.out]; rfl⟩, HB.out⟩
theorem Yo (A : Option Addr) (n c : Nat) (xs : List Num) (hn : n ≤ 1000000) (w : World) (hx : zk w A n c xs) :
  Calls Tryz.prog 57 #[.slice A n c, .func (.func 56) #[] #[]] w fun e w' => e = .returned (.bool (xs.any Num.bad)) ∧ Below w.heap.size w w' := by
 have C := za (zam A n c xs hn w hx);clear hx;go_enter Tryz.func57, Tryz.ntmps57;go_wp2_with fail;refine C.out.mono ?_;rintro e w' ⟨⟨r, rfl, h1, h2, h3⟩, hb⟩;have HD := za h3;have HB := za hb;clear h3 hb;go_wp2_with fail;go_ret;exact ⟨by show Ending.returned (.bool (decide (0 ≤ r))) = _; rw [HD.out], HB.out⟩
theorem Xbg {P : Prop} (h : P := by
 have E1 : r = true := by rw [E]; rfl
 clear E;go_wp2_with fail;go_ret;have hh := F.out.hiw;have hB := F.out.out.1.1.1.1;exact ⟨by rw [E1]; rfl, by first | (rw [hg]; exact (hB.alloc (by omega) _)) | exact (hB.alloc (by omega) _)⟩) : P := h
theorem XaQ {P : Prop} (h : P := by
 have E1 : r = true := by rw [E]; rfl
 clear E;go_wp2_with fail;go_ret;have hh := F.out.hiw;have hB := F.out.out.1.1.1.1;exact ⟨by rw [E1]; rfl, by first | (rw [hg]; exact ((hB.alloc (by omega) _).alloc (by simp; omega) _)) | exact ((hB.alloc (by omega) _).alloc (by simp; omega) _)⟩) : P := h
section
attribute [local go_sem] Oper.semAt_some
theorem qI {P : Program} {ops : Array Oper} {C : World → Prop} {Q : Act → Prop} {a : Act} {o : Oper} {rest : List Oper} (t : TypeId) (x : Operand) (ho : o.op = .load t x) (b i : Nat) (cs : Array Value) (hx : a.eval x = .pointer (some ⟨b, i, none⟩)) (hw : Region.wanted o (yielded ops a.tmps) = true)
  (hr : ∀ w, C w → (Instr.loadAt t (.pointer (some ⟨b, i, none⟩))).run P w = .ok (.agg cs) w) (h : wpQuiet P ops C Q rest (a.put o.dst (.agg cs))) : wpQuiet P ops C Q (o :: rest) a := by
 unfold wpQuiet;rw [if_pos hw];refine ⟨.agg cs, fun w hw => ?_, h⟩;unfold Oper.quietAt execOp;simp only [ho, hx, hr w hw, Sem.run_bind, Sem.run_pure, Result.andThen_ok];exact ⟨rfl, rfl⟩
theorem At.but {w : World} {G : List Nat} {g : Nat} {t : TypeId} {cs : Array Value} (h : At w g t cs) (hg : g ∉ G) (x : But w G) : At x.w g t cs := (x.p.block g h.lt hg).trans h
theorem yC {P : Program} {ops : Array Oper} {Q : Exit → Act → World → Prop} {w0 : World} {G L : List Nat} {i : Nat} {o : Oper} {r : List zG} {a : Act} {w : World} (hg : Region.wanted o (yielded ops a.tmps) = true) (h : ∀ w1, Below w.heap.size w w1 → ∀ K : Act → World → Prop, (∀ a' w', zB w1 (L ++ G) w' → qi P ops w0 G Q L r a' w' → K a' w') → o.wp P a w1 K Q) : qi P ops w0 G Q L (.tl i o :: r) a w := by
 rw [yM];intro w1 hw1;rw [if_pos hg];exact h w1 hw1 _ fun a' w' h1 h2 => ⟨fun _ => h1, [], by simp, h2⟩
theorem zjU {w : World} {g : Nat} {a0 a1 a2 a3 a4 a5 a6 a7 a8 a9 a10 a11 a12 a13 a14 a15 a16 a17 a18 a19 a20 a21 a22 a23 : Value} (h : At w g 76 #[a0, a1, a2, a3, a4, a5, a6, a7, a8, a9, a10, a11, a12, a13, a14, a15, a16, a17, a18, a19, a20, a21, a22, a23]) : (Instr.loadAt 74 (.pointer (some ⟨g, 8, none⟩))).run Tryz.prog w = .ok (.agg #[a8, a9, a10, a11, a12, a13, a14, a15, a16, a17, a18, a19, a20, a21, a22, a23]) w := by
 have h1 : (isAgg 74).run Tryz.prog w = .ok true w := by kernel_rfl
 have h2 : (Go.sizeOf 74).run Tryz.prog w = .ok 16 w := by kernel_rfl
 exact VZ (P := Tryz.prog) (w := w) 74 g 8 [a8, a9, a10, a11, a12, a13, a14, a15, a16, a17, a18, a19, a20, a21, a22, a23] h1 h2 (fun j v hj => by
  rw [h.cell, List.getElem?_toArray, Nat.add_comm];exact hj)
def zav (n : Nat) (x p y s : List Num) (a b c d : Num) : Bool := a.bad || (b.bad || (c.bad || (d.bad || (jk n x p ++ (jk n y s ++ (p ++ s))).any Num.bad)))
theorem zaJ {n : Nat} {x m : List Num} (h : zr n n m) (hx : x.length = n) (hn : n ≤ 4) : 0 < (jk n x m).length ∧ (jk n x m).length ≤ 20 := by
 have h1 := QO (x := x) h (Nat.le_refl n);have h2 : n * n ≤ 4 * 4 := Nat.mul_le_mul hn hn;have h3 := h.r1;have h4 : x.length ≤ (jk n x m).length := by unfold jk j1; rw [List.length_append]; omega
 unfold jk at *;omega
theorem zdc (n : Nat) (hn : n ≤ 4) (A0 : Option Addr) (c0 : Nat) (A1 : Option Addr) (m1 c1 : Nat) (B0 : Option Addr) (d0 : Nat) (B1 : Option Addr) (k1 d1 : Nat) (x p y s : List Num) (hp : zr n n p) (hs : zr n n s) (a b c d : Num) (w : World) (h0 : zk w A0 n c0 x) (h1 : zk w A1 m1 c1 p) (h2 : zk w B0 n d0 y) (h3 : zk w B1 k1 d1 s) :
  Calls Tryz.prog 24 #[j9 n A0 c0 A1 m1 c1 B0 d0 B1 k1 d1 a b c d] w fun e w' => e = .returned (.bool (zav n x p y s a b c d)) ∧ Below w.heap.size w w' := by
 have hn1 := hp.r1;have W0' := za (fun W h0 h1 h2 h3 => zdb n hn A0 c0 A1 m1 c1 B0 d0 B1 k1 d1 x p y s hp hs a b c d W h0 h1 h2 h3);have W1' := za (fun W h0 h1 h2 h3 => zda n hn A0 c0 A1 m1 c1 B0 d0 B1 k1 d1 x p y s hp hs a b c d W h0 h1 h2 h3);have hu5 : Tryz.prog.underlying 74 = some (.array 2 73) := by kernel_rfl
 have hu6 := Tryz.underlying73;have D := za (show zav n x p y s a b c d = (a.bad || (b.bad || (c.bad || (d.bad || (jk n x p ++ (jk n y s ++ (p ++ s))).any Num.bad)))) from rfl);obtain ⟨r, hr⟩ := zc (zav n x p y s a b c d);rw [hr] at D ⊢;clear hr;have hu := Tryz.underlying76;have hu1 := Tryz.underlying67;have hu2 := Tryz.underlying69;have hu3 := Tryz.underlying65;have hu4 := Tryz.underlying71;have RI := za (fun W => jf n hn A0 c0 A1 m1 c1 B0 d0 B1 k1 d1 p s hp hs h1.1 h3.1 a b c d W)
 have H0 := za h0;have H1 := za h1;have H2 := za h2;have H3 := za h3;clear h0 h1 h2 h3;obtain ⟨av, al, ah, ab⟩ := a;obtain ⟨bv, bl, bh, bb⟩ := b;obtain ⟨cv, cl, ch, cb⟩ := c;obtain ⟨dv, dl, dh, db⟩ := d;unfold j9 at RI W0' W1' ⊢;dsimp only at RI W0' W1' D ⊢;have i0 : ∀ w : World, (Instr.index 74 (.agg #[av, al, ah, ab, bv, bl, bh, bb, cv, cl, ch, cb, dv, dl, dh, db]) (.int .i64 0)).run Tryz.prog w = .ok (.agg #[av, al, ah, ab, bv, bl, bh, bb]) w := fun _ => by kernel_rfl
 have i1 : ∀ w : World, (Instr.index 74 (.agg #[av, al, ah, ab, bv, bl, bh, bb, cv, cl, ch, cb, dv, dl, dh, db]) (.int .i64 1)).run Tryz.prog w = .ok (.agg #[cv, cl, ch, cb, dv, dl, dh, db]) w := fun _ => by kernel_rfl
 have E := D.out;clear D;go_enter Tryz.func24, Tryz.ntmps24;go_wp2_with (first | (refine jj rfl 76 _ rfl _ rfl ?_; intro W9 hW9; have bx9 := At.of_new hW9) | refine qs rfl 74 _ rfl _ _ _ rfl (zjU bx9) ?_)
 clear bx9;subst hW9;obtain ⟨W0, hW0⟩ := zc ((w.alloc (.cells #[.slice A0 n c0, .int .i64 (n : Int), .int .i64 (n : Int), .slice A1 m1 c1, .slice B0 n d0, .int .i64 (n : Int), .int .i64 (n : Int), .slice B1 k1 d1, av, al, ah, ab, bv, bl, bh, bb, cv, cl, ch, cb, dv, dl, dh, db] 76)));obtain ⟨bx, b0, hsz⟩ := zV hW0;rw [hW0];clear hW0;have F := za (((((Off.start b0 hsz).argN b0 (H0.out)).argN b0 (H1.out)).argN b0 (H2.out)).argN b0 (H3.out))
 have BX := za bx;clear bx b0 hsz;obtain ⟨g, hg⟩ := zc (w.heap.size);rw [hg] at F BX
 try simp only [hg]
 refine wp_loop_rounds 3 ?_;rw [rounds_succ];cases ab
 case true =>
  exact Xbg
 cases bb
 case true =>
  exact Xbg
 go_wp2_with fail;rw [rounds_succ];cases cb
 case true =>
  exact XaQ
 cases db
 case true =>
  exact XaQ
 go_wp2_with fail;rw [rounds_succ];go_wp2_with fail;obtain ⟨Xba, hXba⟩ := zc (((W0.alloc (.cells #[av, al, ah, .bool false, bv, bl, bh, .bool false] 73)).alloc (.cells #[cv, cl, ch, .bool false, dv, dl, dh, .bool false] 73)));obtain ⟨bx, b0, hsz⟩ := yW hXba;rw [hXba];have lba := F.out.hiw;replace F := za (F.out.gotB b0 bx );replace BX := ze BX b0;obtain ⟨ba, hba⟩ := zc (W0.heap.size);rw [hba] at F lba
 try simp only [hba]
 clear bx b0 hsz hba hXba
 try simp only [Bool.false_or] at E
 have x3 := (BX.out.1).cell 3;have x7 := (BX.out.1).cell 7;replace F := za F.out.now;have hstart := F.out.hiw;refine zH [] (.rd (i := 0) rfl (.tl (i := 1) rfl (.rd (i := 2) rfl (.rd (i := 3) rfl (.rd (i := 4) rfl (.rd (i := 6) rfl (.rd (i := 8) rfl (.rd (i := 9) rfl (.rd (i := 10) rfl (.rd (i := 11) rfl (.rd (i := 12) rfl (.rd (i := 13) rfl (.rd (i := 14) rfl (.rd (i := 15) rfl (.rd (i := 18) rfl (.tl (i := 5) rfl (.tl (i := 7) rfl (.tl (i := 16) rfl (.tl (i := 17) rfl (.tl (i := 19) rfl (.rd (i := 20) rfl (.tl (i := 21) rfl .nil)))))))))))))))))))))) (by kernel_rfl) (by kernel_rfl) (fun c a d v w h => by cases d <;> exact h) (fun c a d v w h => by cases d <;> exact h) (by simp) ?_
 have bp := BX.out.1;refine zf ?_;refine qI 76 _ rfl _ _ _ rfl rfl (fun w' hw' => by obtain ⟨xx, rfl⟩ := hw'; exact (bp.but (by simp) xx).load76 rfl) (wpQuiet_nil ?_);refine zm rfl (fun w1 hb K hK => ?_);replace hb := qe hb;go_simp;replace F := zd F hb;replace BX := ze BX hb;clear hb;refine (RI.out _).mono ?_;rintro e w2 ⟨rfl, hb⟩;refine hK _ _ ((zB.refl _ _).call hb) ?_;clear hK K;replace F := zd F hb
 replace BX := ze BX hb;clear hb;iterate 2 (refine zf ?_;go_big_quiet_step (fail);refine wpQuiet_nil ?_)
 iterate 2 (refine zf ?_;refine qI 76 _ rfl _ _ _ rfl rfl (fun w' hw' => by obtain ⟨xx, rfl⟩ := hw'; exact (bp.but (by simp) xx).load76 rfl) (wpQuiet_nil ?_))
 go_simp;have kx3 := fun x => But.cell (G := []) x3 (by simp) x;have kx7 := fun x => But.cell (G := []) x7 (by simp) x;iterate 9 (refine zf ?_;go_big_quiet_step (fail);refine wpQuiet_nil ?_)
 clear kx3 kx7;clear bp x3 x7;refine yC rfl (fun w3 hb K hK => ?_);go_simp;replace F := zd F hb;replace BX := ze BX hb;clear hb;refine (W0'.out _ F.out.out.1.1.1.1.2 F.out.out.1.1.1.2 F.out.out.1.1.2 F.out.out.1.2).mono ?_;rintro e w4 ⟨Q0, q0, u0, rfl, ho, hb⟩;refine hK _ _ ((zB.refl _ _).call hb) ?_;clear hK K;replace F := zd F hb;replace BX := ze BX hb;have V0 := za ho.nums;clear hb ho;refine yC rfl (fun w5 hb K hK => ?_)
 go_simp;replace F := zd F hb;replace BX := ze BX hb;replace V0 := za (V0.out.below hb);clear hb;refine (W1'.out _ F.out.out.1.1.1.1.2 F.out.out.1.1.1.2 F.out.out.1.1.2 F.out.out.1.2).mono ?_;rintro e w6 ⟨Q1, q1, u1, rfl, ho, hb⟩;refine hK _ _ ((zB.refl _ _).call hb) ?_;clear hK K;replace F := zd F hb;replace BX := ze BX hb;replace V0 := za (V0.out.below hb);have V1 := za ho.nums;clear hb ho;refine yC rfl (fun w7 hb K hK => ?_)
 go_simp;replace F := zd F hb;replace BX := ze BX hb;replace V0 := za (V0.out.below hb);replace V1 := za (V1.out.below hb);clear hb;refine hK _ _ ((zB.refl _ _).alloc _) ?_;clear hK K;replace F := za F.out.now;obtain ⟨Xlb, hXlb⟩ := zc (w7.alloc (.cells #[.slice Q0 q0 u0, .slice Q1 q1 u1, .slice A1 m1 c1, .slice B1 k1 d1] 63));obtain ⟨bx, b0, hsz⟩ := zV hXlb;rw [hXlb];have llb := F.out.hiw;replace F := zd F b0
 replace BX := ze BX b0;replace V0 := za (V0.out.below b0);replace V1 := za (V1.out.below b0);have L4 := za bx.1;obtain ⟨lb, hlb⟩ := zc (w7.heap.size);rw [hlb] at F llb L4
 try simp only [hlb]
 clear bx b0 hsz hlb hXlb;have hw0 := zaJ hp H0.out.1 hn;have hw1 := zaJ hs H2.out.1 hn;have hnn : n * n ≤ 4 * 4 := Nat.mul_le_mul hn hn;have hp0 : 0 < n * n := Nat.mul_pos hn1 hn1;have l0 := V0.out.1;have l1 := V1.out.1;have l2 := H1.out.1;have l3 := H3.out.1;have l4 := hp.len;have l5 := hs.len;have hsz4 : jb [⟨Q0, q0, u0, jk n x p⟩, ⟨Q1, q1, u1, jk n y s⟩, ⟨A1, m1, c1, p⟩, ⟨B1, k1, d1, s⟩] ≤ 1000 := by simp [jb]; omega
 have CC := za (fun W h => JY lb 4 4 [⟨Q0, q0, u0, jk n x p⟩, ⟨Q1, q1, u1, jk n y s⟩, ⟨A1, m1, c1, p⟩, ⟨B1, k1, d1, s⟩] rfl (by omega) hsz4 W h);have hfl : ([⟨Q0, q0, u0, jk n x p⟩, ⟨Q1, q1, u1, jk n y s⟩, ⟨A1, m1, c1, p⟩, ⟨B1, k1, d1, s⟩] : List SlR).flatMap SlR.xs = jk n x p ++ (jk n y s ++ (p ++ s)) := by simp [List.flatMap_cons]
 rw [hfl] at CC;obtain ⟨LL, hLL⟩ := zc (jk n x p ++ (jk n y s ++ (p ++ s)));have hln : LL.length ≤ 1000 := by rw [← hLL]; simp; omega
 rw [hLL] at CC E;have CF := za (fun (A : Option Addr) (n c : Nat) (W : World) (h : zk W A n c LL) => Yo A n c LL (by have := h.1; omega) W h);clear hfl hLL hsz4
 have SLm : ∀ W, At W lb 63 #[.slice Q0 q0 u0, .slice Q1 q1 u1, .slice A1 m1 c1, .slice B1 k1 d1] → zk W Q0 q0 u0 (jk n x p) → zk W Q1 q1 u1 (jk n y s) → zk W A1 m1 c1 p → zk W B1 k1 d1 s → VM W lb [⟨Q0, q0, u0, jk n x p⟩, ⟨Q1, q1, u1, jk n y s⟩, ⟨A1, m1, c1, p⟩, ⟨B1, k1, d1, s⟩] := fun W h e0 e1 e2 e3 i t ht => by
  match i, ht with
  | 0, ht => cases ht; exact ⟨by show 0 < q0; omega, h.cell 0, e0⟩
  | 1, ht => cases ht; exact ⟨by show 0 < q1; omega, h.cell 1, e1⟩
  | 2, ht => cases ht; exact ⟨by show 0 < m1; omega, h.cell 2, e2⟩
  | 3, ht => cases ht; exact ⟨by show 0 < k1; omega, h.cell 3, e3⟩
 refine yC rfl (fun w8 hb K hK => ?_);go_simp;replace F := zd F hb;replace BX := ze BX hb;replace V0 := za (V0.out.below hb);replace V1 := za (V1.out.below hb);replace L4 := za (L4.out.below hb);clear hb;refine (CC.out _ (SLm _ L4.out V0.out V1.out F.out.out.1.1.1.2 F.out.out.1.2)).mono ?_;rintro e w9 ⟨Q2, q2, u2, rfl, ho, hb⟩;refine hK _ _ ((zB.refl _ _).call hb) ?_;clear hK K;replace F := zd F hb
 replace BX := ze BX hb;replace V0 := za (V0.out.below hb);replace V1 := za (V1.out.below hb);replace L4 := za (L4.out.below hb);have V2 := za ho.nums;clear hb ho;refine yC rfl (fun w10 hb K hK => ?_);go_simp;replace F := zd F hb;replace BX := ze BX hb;replace V0 := za (V0.out.below hb);replace V1 := za (V1.out.below hb);replace L4 := za (L4.out.below hb);replace V2 := za (V2.out.below hb);clear hb
 refine (CF.out _ _ _ _ V2.out).mono ?_;rintro e w11 ⟨rfl, hb⟩;refine hK _ _ ((zB.refl _ _).call hb) ?_;clear hK K;replace F := zd F hb;replace BX := ze BX hb;replace V0 := za (V0.out.below hb);replace V1 := za (V1.out.below hb);replace L4 := za (L4.out.below hb);replace V2 := za (V2.out.below hb);clear hb;refine zf ?_;go_big_quiet_step (fail);refine wpQuiet_nil ?_;refine zJ rfl (fun w12 hb K hK => ?_)
 go_simp;replace F := zd F hb;replace BX := ze BX hb;replace V0 := za (V0.out.below hb);replace V1 := za (V1.out.below hb);replace L4 := za (L4.out.below hb);replace V2 := za (V2.out.below hb);clear hb;refine hK _ _ ?_;clear hK K;go_wp2_with fail;go_ret;exact ⟨by first | rfl | (rw [E]; rfl), by first | (rw [hg]; exact F.out.out.1.1.1.1.1) | exact F.out.out.1.1.1.1.1⟩
end
section
attribute [local go_sem] Oper.semAt_some yI
structure KC (h : Nat) (W W' : World) : Prop where
 os : W'.os = W.os
 tape : W'.tape = W.tape
 output : W'.output = W.output
 size : W.heap.size ≤ W'.heap.size
 block : ∀ k o, k ≠ h → W.heap[k]? = some o → o.isCells = true → W'.heap[k]? = some o
theorem KC.refl (h : Nat) (W : World) : KC h W W := ⟨rfl, rfl, rfl, Nat.le_refl _, fun _ _ _ e _ => e⟩
theorem KC.trans {h : Nat} {A B C : World} (p : KC h A B) (q : KC h B C) : KC h A C := ⟨q.os.trans p.os, q.tape.trans p.tape, q.output.trans p.output, Nat.le_trans p.size q.size, fun k o hk e c => q.block k o hk (p.block k o hk e c) c⟩
theorem KC.of_below {h : Nat} {A B : World} (p : Below A.heap.size A B) : KC h A B := ⟨p.os, p.tape, p.output, p.size, fun k o _ e _ => (p.block k (Array.getElem?_eq_some_iff.1 e).1).trans e⟩
theorem KC.drew {h : Nat} {A B : World} (p : KC h A B) : KC h A B.drew := ⟨p.os, p.tape, p.output, p.size, p.block⟩
theorem KC.undrew {h : Nat} {A B : World} (p : KC h A.drew B) : KC h A B := ⟨p.os, p.tape, p.output, p.size, p.block⟩
theorem KC.grown {h : Nat} {A B C : World} {row : Option Nat} (p : KC h A B) (g : B.grownBy C row) (hr : ∀ r, row = some r → r = h ∨ ∃ o : Obj, B.heap[r]? = some o ∧ o.isCells = false) : KC h A C :=
 ⟨g.os.trans p.os, g.tape.trans p.tape, g.output.trans p.output, Nat.le_trans p.size g.size, fun k o hk e c => by
  have e2 := p.block k o hk e c;refine (g.block k (Array.getElem?_eq_some_iff.1 e2).1 (fun er => ?_)).trans e2;rcases hr k er.symm with h1 | ⟨o', h1, h2⟩
  ·exact hk h1
  ·rw [e2] at h1; cases h1; rw [c] at h2; cases h2⟩
theorem KC.set {h : Nat} {A B : World} (p : KC h A B) (i : Nat) (u : Value) : KC h A (B.setCell ⟨h, i, none⟩ u) := p.grown (ji B h i u) fun r e => .inl (by injection e with e; exact e.symm)
theorem KC.at_ {h : Nat} {A B : World} (p : KC h A B) {g : Nat} {t : TypeId} {cs : Array Value} (hg : g ≠ h) (k : At A g t cs) : At B g t cs := p.block g _ hg k rfl
theorem KC.cell {h : Nat} {A B : World} (p : KC h A B) {b i : Nat} {v : Value} (hb : b ≠ h) (c : A.cell? ⟨b, i, none⟩ = some v) : B.cell? ⟨b, i, none⟩ = some v := by
 obtain ⟨o, ho, hc⟩ : ∃ o, A.heap[b]? = some o ∧ o.isCells = true := by
  unfold World.cell? at c
  split at c
  ·rename_i hh; exact ⟨_, hh, rfl⟩
  ·cases c
 exact (World.cell?_of_block ((p.block b o hb ho hc).trans ho.symm)).trans c
theorem KC.nums {h : Nat} {A B : World} (p : KC h A B) {a : Option Addr} {n c : Nat} {xs : List Num} (k : zk A a n c xs) (hb : ∀ b o, a = some ⟨b, o, none⟩ → 0 < n → b ≠ h) : zk B a n c xs :=
 ⟨k.1, k.2.1, fun hn => by
  obtain ⟨b, o, e, hc⟩ := k.2.2 hn;have hh := hb b o e hn;exact ⟨b, o, e, fun i x hx => ⟨p.cell hh (hc i x hx).1, p.cell hh (hc i x hx).2.1, p.cell hh (hc i x hx).2.2.1, p.cell hh (hc i x hx).2.2.2⟩⟩⟩
def zhN (g : Nat) : Value := .func (.func 183) #[] #[.pointer (some ⟨g, 0, none⟩)]
theorem zdx (cs : Array Value) (w : World) :
  Calls Tryz.prog 178 #[.agg cs] w fun e w' => e = .returned (zhN w.heap.size) ∧ w.alloc (.cells cs 76) = w' := by
 go_enter Tryz.func178, Tryz.ntmps178;go_wp2_with (refine jj rfl 76 _ rfl _ rfl ?_; intro W9 hW9)
 go_ret;exact ⟨rfl, hW9⟩
def vT (x p : List Num) : List Num := x ++ p
def vS (n : Nat) (y s : List Num) : List Num := y ++ j2 n s
end
end Go.Proofs.YtcoiklclbljjeaaGreatDoor.L
