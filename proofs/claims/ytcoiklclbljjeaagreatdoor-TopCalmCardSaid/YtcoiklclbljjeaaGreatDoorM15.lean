/- Lemmas of the card's proof. -/
import Derived.Test.YtcoiklclbljjeaaGreatDoorM14
set_option linter.unusedVariables false
set_option linter.unusedSimpArgs false
set_option maxRecDepth 100000
set_option maxHeartbeats 16000000
namespace Go.Proofs.YtcoiklclbljjeaaGreatDoor.L
open Go.RowKit
section
attribute [local go_sem] Oper.semAt_some yI
theorem jr.grown {S : Nat → Prop} {W0 W W' : World} {go : Nat} {ys : List Num} {v : Value} {row : Option Nat} (h : jr S W0 go ys v W) (hS : ∀ k, S k → k < W0.heap.size) (hgr : W.grownBy W' row) (hr : ∀ r, row = some r → W0.heap.size ≤ r ∧ ∃ o : Obj, W.heap[r]? = some o ∧ o.isCells = false) : jr S W0 go ys v W' :=
 ⟨qx h.box hgr (fun r e => (hr r e).2), jL h.own hgr (fun r e => (hr r e).2), QZ h.kb hS (Nat.le_refl _) hgr (fun r e => (hr r e).1)⟩
theorem jr.below {S : Nat → Prop} {W0 W W' : World} {go : Nat} {ys : List Num} {v : Value} (h : jr S W0 go ys v W) (hS : ∀ k, S k → k < W0.heap.size) (hb : Below W.heap.size W W') : jr S W0 go ys v W' :=
 ⟨h.box.below hb, h.own.below hb, h.kb.call hS hb⟩
theorem j7 (args : Array Value) (W : World) : (callFunc 124 args).run Tryz.prog W = .ok (.enter 124 args) W := enters_of Tryz.func124 (by kernel_rfl) rfl args W
theorem zk.drew {W : World} {A : Option Addr} {n c : Nat} {xs : List Num} (h : zk W A n c xs) : zk W.drew A n c xs := h.below ⟨rfl, rfl, rfl, Nat.le_refl _, fun _ _ => rfl⟩
def ziP (ys : List Num) (w : World) (e : Ending) (w' : World) : Prop := ∃ A n c, e = .returned (.tuple #[.slice A n c, .bool true]) ∧ zF w' w.heap.size (.slice A n c) ys ∧ Below w.heap.size w w'
def jE (r c : Nat) (l xs : List Num) : List Num := (List.range r).map fun i => vL (qt c l i) xs
theorem zad (r c : Nat) (l xs : List Num) : jE (r + 1) c l xs = jE r c l xs ++ [vL (qt c l r) xs] := by unfold jE; rw [List.range_succ]; simp
theorem yp (r c : Nat) (l xs : List Num) : (jE r c l xs).length = r := by simp [jE]
theorem Vu (r c : Nat) (A : Option Addr) (n cp : Nat) (l : List Num) (hs : zr r c l) (A' : Option Addr) (m' c' : Nat) (xs : List Num) (hm : m' = c) (w : World) (hl : zk w A n cp l) (hx : zk w A' m' c' xs) : Calls Tryz.prog 150 #[zD r c A n cp, .slice A' m' c'] w (ziP (jE r c l xs) w) := by
 have hu := Tryz.underlying65;have hu1 := Tryz.underlying71;have R := za (show ∀ W, Calls Tryz.prog 119 #[zD r c A n cp] W fun e w' => e = .returned (.bool true) ∧ Below W.heap.size W w' from fun W => by have := qz r c A n cp W; rw [hs.right hl.1] at this; exact this);have AL := za (fun W => vy r c A n cp W);have HL := za hl;have HX := za hx;have lx := hl.1;have lxs := hx.1;have hln : n ≤ 256 := by rw [← lx, hs.len]; exact hs.prod
 have hr16 := hs.r2;have hc16 := hs.c2;subst hm;clear hl hx;unfold zD at R AL ⊢;refine (callsIn_wide (n := 9)).1 ?_;refine callsIn_of_wp_marks Tryz.func150 rfl trivial ?_ rfl;simp only [Tryz.ntmps150, List.size_toArray, List.length_cons, List.length_nil, Nat.reduceAdd, Nat.reduceSub, Array.replicate_succ, Array.replicate_zero, List.push_toArray, List.append_toArray, List.nil_append, List.cons_append]
 gi_wp2_with fail;have A0 := za ((At.new w 65 #[.int .i64 (r : Int), .int .i64 (m' : Int), .slice A n cp]).alloc (.cells #[.slice A' m' c'] 63));have A1 := za (At.new (w.alloc (.cells #[.int .i64 (r : Int), .int .i64 (m' : Int), .slice A n cp] 65)) 63 #[.slice A' m' c']);have B0 := za (zg (zg (Below.refl w.heap.size w) (.cells #[.int .i64 (r : Int), .int .i64 (m' : Int), .slice A n cp] 65)) (.cells #[.slice A' m' c'] 63))
 obtain ⟨W0, hW0⟩ := zc (((w.alloc (.cells #[.int .i64 (r : Int), .int .i64 (m' : Int), .slice A n cp] 65)).alloc (.cells #[.slice A' m' c'] 63)));simp only [World.size_alloc] at A1;have hWg := za (show W0.heap.size = w.heap.size + 2 by rw [← hW0]; simp);rw [hW0] at A0 A1 B0 ⊢;clear hW0;obtain ⟨g, hg⟩ := zc (w.heap.size);rw [hg] at A0 A1 B0 hWg
 try simp only [hg]
 refine (zC 8 (R.out W0)).mono ?_;rintro e w1 ⟨rfl, hb1⟩;obtain ⟨m0, m1, m2⟩ := (A0.out.below hb1).three;have x0 := (A1.out.below hb1).cell 0;have B1 := za (zq B0.out (by rw [hWg.out]; omega) hb1);have A0' := za (A0.out.below hb1);have A1' := za (A1.out.below hb1);have hs1 := za hb1.size;clear hb1;obtain ⟨k0, k1, k2⟩ := (A0'.out.alloc (.cells #[.slice none 0 0] 63)).three;gi_wp2_with fail;refine (zC 8 (AL.out _)).mono ?_
 rintro e w2 ⟨rfl, rfl⟩;have C0 := za ((At.new w1 63 #[.slice none 0 0]).alloc (.cells #[.int .i64 (r : Int), .int .i64 (m' : Int), .slice A n cp] 65));have C1 := za (At.new (w1.alloc (.cells #[.slice none 0 0] 63)) 65 #[.int .i64 (r : Int), .int .i64 (m' : Int), .slice A n cp]);have D0 := za (zg (zg (Below.refl w1.heap.size w1) (.cells #[.slice none 0 0] 63)) (.cells #[.int .i64 (r : Int), .int .i64 (m' : Int), .slice A n cp] 65))
 obtain ⟨V0, hV0⟩ := zc (((w1.alloc (.cells #[.slice none 0 0] 63)).alloc (.cells #[.int .i64 (r : Int), .int .i64 (m' : Int), .slice A n cp] 65)));simp only [World.size_alloc] at C1;have hV := za (show V0.heap.size = w1.heap.size + 2 by rw [← hV0]; simp);rw [hV0] at C0 C1 D0 ⊢;clear hV0;obtain ⟨h, hh⟩ := zc (w1.heap.size);rw [hh] at C0 C1 D0 hV
 try simp only [hh]
 simp only [World.size_alloc];simp only [hh];have B2 := za (zq B1.out (by have := hs1.out; rw [hWg.out] at this; omega) (by rw [hh]; exact D0.out));have A1'' := za (A1'.out.below (by rw [hh]; exact D0.out));clear m0 m1 m2 x0 k0 k1 k2 R;have hgh : g + 2 ≤ h := by have := hs1.out; rw [hWg.out, hh] at this; exact this
 obtain ⟨S, hSd⟩ : ∃ S : Nat → Prop, S = fun k => k < V0.heap.size ∧ k ≠ h := ⟨_, rfl⟩
 have hsz := hV.out;have hS : ∀ k, S k → k < V0.heap.size := fun k h => by rw [hSd] at h; exact h.1
 have hSo : ¬ S h := fun h => by rw [hSd] at h; exact h.2 rfl
 have hSi : ∀ k, k < V0.heap.size → k ≠ h → S k := fun k h1 h2 => by rw [hSd]; exact ⟨h1, h2⟩
 clear hSd;have hBw : Below w.heap.size w V0 := by rw [hg]; exact B2.out
 have hSw : ∀ k, k < w.heap.size → S k := fun k hk => hSi k (by rw [hsz]; omega) (by omega);gi_wp2_with fail
 refine jI rfl (by decide) (gf := 124) (lb := #[.pointer (some ⟨h + 1, 0, none⟩)]) rfl trivial j7
  (yG 6 S (h + 1) r m' A n cp l hs V0 (hSi _ (by omega) (by omega)) C1.out (fun W' k => k.nums HL.out hBw hSw)) (fun s W0 args s' W1 h => (Vf.size _ _ _ _ _ h).trans rfl)
  (fun k W => ∃ v, jr S V0 h (jE k m' l xs) v W) (fun _ _ ⟨_, k⟩ => k.kb) (fun _ _ _ _ ⟨v, k⟩ hgr hr => ⟨v, k.grown hS hgr hr⟩) (fun _ _ _ ⟨v, k⟩ hb => ⟨v, k.below hS hb⟩)
  ⟨.slice none 0 0, C0.out, zF.nil_ _ _, KB.refl S V0⟩ ?round ?done
 case round =>
  rintro lp k k' args V1 V2 hlp ⟨v, hv⟩ ⟨rl, hrl⟩ hb ⟨hkr, rfl, row, rfl, hrow⟩;have H1 := za (hv.below hS hb);have HR := za hrow;obtain ⟨ra, rn, rc, rfl⟩ := zO hrow;clear hv hrow;gi_wp2_with fail;refine ⟨KeepsFrom.refl _ _, fun W2 hgr ho _ => ?_⟩;have H2 := za (H1.out.grown hS hgr (fun r e => by cases e; exact ⟨hlp, ho⟩));have HR2 := za (jL HR.out hgr (fun r e => by cases e; exact ho)).nums;have hrn : rn ≤ 1000 := by have := zL HR.out; unfold qt at this; rw [List.length_take] at this; omega
  have HD := za (fun (W : World) (h1 : zk W ra rn rc (qt m' l k)) (h2 : zk W A' m' c' xs) => vV ra A' rn rc m' c' _ xs hrn (by omega) W h1 h2);have HX2 := za (H2.out.kb.nums HX.out hBw hSw);obtain ⟨rr, hrr⟩ := zc (vL (qt m' l k) xs);have HRR := za hrr;simp only [hrr] at HD;obtain ⟨L, hL⟩ := zc (jE k m' l xs);have HLE := za hL;have HLL := za (show L.length ≤ 1000 by rw [← hL, yp]; omega);rw [hL] at H2
  obtain ⟨rv, rl, rh, rb⟩ := rr;have y0 := (H2.out.kb.at_ (hSi (g + 1) (by omega) (by omega)) A1''.out).cell 0;have o0 := H2.out.box.cell 0;have hgo : some h ≠ v.ownBlock := fun e => by have := (World.ownsRow.lt H2.out.own h e.symm).1; omega
  have hg1 : some (g + 1) ≠ v.ownBlock := fun e => by have := (World.ownsRow.lt H2.out.own (g + 1) e.symm).1; omega
  have hn : ∀ q, some q ≠ v.ownBlock → q ∉ v.ownBlock.toList := fun q h => by cases e : v.ownBlock with
   | none => simp
   | some z => rw [e] at h; simpa using fun hq => h (by rw [hq])
  clear hL hrr ho hgr H1 HR;gi_wp2;refine jK (by kernel_rfl) (by kernel_rfl) (by rintro ⟨a, w, h⟩; exact h) (jw v.ownBlock.toList [0, 1, 2] [3, 4, 5, 6] (.cons rfl (.cons rfl (.cons rfl .nil))) (.cons rfl (.cons rfl (.cons rfl (.cons rfl .nil)))) (by kernel_rfl) (fun c a d v w h => h) ?_);have ky0 := fun x => But.cell y0 (hn _ hg1) x;have ko0 := fun x => But.cell o0 (hn _ hgo) x
  repeat (go_big_quiet_step (fail))
  refine wpQuiet_nil ?_;clear ky0 ko0;refine zp rfl (fun K hK => ?_);go_simp;refine (HD.out _ HR2.out.drew HX2.out.drew).mono ?_;rintro e w3 ⟨rfl, hb3⟩;replace hb3 := qe hb3;refine hK _ _ (zI ((zB.refl _ _).call hb3)) ?_;clear hK K;refine zp rfl (fun K hK => ?_);go_simp;refine hK _ _ (zI (((zB.refl _ _).call hb3).alloc _)) ?_;clear hK K;refine zp rfl (fun K hK => ?_);have hsW := H2.out.kb.size;refine jO (.tmp 23) (.tmp 27) rfl V0.heap.size v L ⟨rv, rl, rh, rb⟩ _ rfl ((H2.out.own.below hb3).alloc _) rfl (At.new' (by simp)) HLL.out (by have := hb3.size; simp; omega) ?_
  intro g1 cc1 w4 hown4 hgrow4 hat4 hg1';refine hK _ _ (zI ((((zB.refl _ _).call hb3).alloc _).grown hgrow4 (fun k e => .inl (qK k e)))) ?_;clear hK K;have hbx := za ((((H2.out.box.below hb3).alloc _).grown hgrow4 hgo));have e0 := hbx.out.cell 0;have z0 := hbx.out.frozen 0;have hrowS : ∀ k, v.ownBlock = some k → ¬ S k := fun k e hk => by have := (World.ownsRow.lt H2.out.own k e).1; have := hS k hk; omega
  have hSW : ∀ k, S k → k < W2.heap.size := fun k hk => Nat.lt_of_lt_of_le (hS k hk) hsW;have hkf := za ((zA (B := V0.heap.size) hb3).trans ((zA (zg (Below.refl _ _) _)).trans (ju ((H2.out.own.below hb3).alloc _) hgrow4)));have hkb := za (((((KB.refl S W2).call hSW hb3).call hSW (zg (Below.refl _ _) _)).grown hSW hgrow4 hrowS));have HO := za hown4;clear hown4 hgrow4 hat4 hb3;refine zX rfl (fun K hK => ?_)
  go_simp;refine hK _ _ ?_;clear hK K;refine ⟨hkf.out.trans (zY _ _ _ _), .slice (some ⟨g1, 0, none⟩) (L.length + 1) cc1, hbx.out.set 0 _ rfl, ?_, (H2.out.kb.trans hkb.out).set hSo _ _⟩;rw [zad, HLE.out, HRR.out];exact HO.out.kept (grownBy_setCell' _ _ _) (.inr (by simp [Value.ownBlock]; omega))
 case done =>
  rintro D s W hD rfl ⟨v, hv⟩ hK;have e0 := hv.box.cell 0;have HK := za hK;have H := za hv;have hD' := za hD;clear hv hK hD;gi_wp2;refine ⟨by simp, .inl ⟨_, _, rfl, run_takeDeferred HK.out, ?_⟩⟩;obtain ⟨A1, n1, c1, rfl⟩ := zO H.out.own;have hg0 : g ≤ V0.heap.size := by omega
  refine ⟨_, (by simp [results, Tryz.results150, go_sem]), A1, n1, c1, rfl, Qq (jM H.out.own (by rw [hg]; exact hg0)) _ HK.out rfl, ?_⟩;rw [hg];exact qA (B2.out.trans (H.out.kb.below (fun k hk => hSi k (by omega) (by omega)))) (Nat.le_trans hg0 H.out.kb.size) (Nat.le_trans hg0 hD'.out) _
end
theorem XaY {P : Prop} (h : P := by
 go_wp2_with fail;go_roundw
 case rel => exact ⟨j + 1, by omega, by go_num, _, HF⟩
 case measure => simp [intOf]; omega) : P := h
theorem Xbl {P : Prop} (h : P := by
 go_wp2_with fail;go_roundw
 case rel => exact ⟨k + 1, by omega, by go_num, _, H⟩
 case measure => simp [intOf]; omega) : P := h
theorem Xbz {P : Prop} (h : P := by
 rw [hg];exact qS (B2.out.trans (H.out.kb.below (fun k hk => hSi k (by omega) (by omega)))) (by omega) _ _ _) : P := h
structure zat (S : Nat → Prop) (W0 : World) (go : Nat) (r c : Int) (ys : List Num) (v : Value) (W : World) : Prop where
 box : At W go 65 #[r, c, v]
 own : zF W W0.heap.size v ys
 kb : KB S W0 W
theorem zat.grown {S : Nat → Prop} {W0 W W' : World} {go : Nat} {r c : Int} {ys : List Num} {v : Value} {row : Option Nat} (h : zat S W0 go r c ys v W) (hS : ∀ k, S k → k < W0.heap.size) (hgr : W.grownBy W' row) (hr : ∀ r, row = some r → W0.heap.size ≤ r ∧ ∃ o : Obj, W.heap[r]? = some o ∧ o.isCells = false) : zat S W0 go r c ys v W' :=
 ⟨qx h.box hgr (fun r e => (hr r e).2), jL h.own hgr (fun r e => (hr r e).2), QZ h.kb hS (Nat.le_refl _) hgr (fun r e => (hr r e).1)⟩
theorem zat.below {S : Nat → Prop} {W0 W W' : World} {go : Nat} {r c : Int} {ys : List Num} {v : Value} (h : zat S W0 go r c ys v W) (hS : ∀ k, S k → k < W0.heap.size) (hb : Below W.heap.size W W') : zat S W0 go r c ys v W' :=
 ⟨h.box.below hb, h.own.below hb, h.kb.call hS hb⟩
theorem jF {w : World} {B q : Nat} {v : Value} {xs : List Num} (h : zF w B v xs) (hq : q < B) : some q ≠ v.ownBlock := fun e => by have := (World.ownsRow.lt h q e.symm).1; omega
theorem zN {v : Value} {q : Nat} (h : some q ≠ v.ownBlock) : q ∉ v.ownBlock.toList := by
 cases e : v.ownBlock with
 | none => simp
 | some z => rw [e] at h; simpa using fun hq => h (by rw [hq])
theorem ji (w : World) (b i : Nat) (v : Value) : w.grownBy (w.setCell ⟨b, i, none⟩ v) (some b) := ⟨rfl, rfl, rfl, by simp [World.setCell], fun k hk hne => Below.heap_setCell w ⟨b, i, none⟩ v k (fun e => hne (by rw [e]))⟩
def zbA (c : Nat) (l : List Num) (k i : Nat) : List Num := (List.range i).map fun j => atM c l j k
def ZM (r c : Nat) (l : List Num) (k : Nat) : List Num := (List.range k).flatMap fun j => zbA c l j r
def jT (r c : Nat) (l : List Num) : List Num := ZM r c l c
theorem zhj (c : Nat) (l : List Num) (k i : Nat) : zbA c l k (i + 1) = zbA c l k i ++ [atM c l i k] := by unfold zbA; rw [List.range_succ]; simp
theorem zeD (c : Nat) (l : List Num) (k i : Nat) : (zbA c l k i).length = i := by simp [zbA]
theorem VS (r c : Nat) (l : List Num) (k : Nat) : ZM r c l (k + 1) = ZM r c l k ++ zbA c l k r := by unfold ZM; rw [List.range_succ, List.flatMap_append]; simp
theorem zaL (r c : Nat) (l : List Num) (k : Nat) : (ZM r c l k).length = k * r := by
 induction k with
 | zero => simp [ZM]
 | succ k ih => rw [VS, List.length_append, ih, zeD, Nat.add_mul, Nat.one_mul]
theorem zr.turn {r c : Nat} {l : List Num} (h : zr r c l) : zr c r (jT r c l) := ⟨h.c1, h.c2, h.r1, h.r2, zaL r c l c⟩
theorem JC (r c : Nat) (A : Option Addr) (n cp : Nat) (l : List Num) (hs : zr r c l) (w : World) (hl : zk w A n cp l) : Calls Tryz.prog 122 #[zD r c A n cp] w (Qg c r (jT r c l) w) := by
 have hu := Tryz.underlying65;have hu1 := Tryz.underlying71;have R := za (show ∀ W, Calls Tryz.prog 119 #[zD r c A n cp] W fun e w' => e = .returned (.bool true) ∧ Below W.heap.size W w' from fun W => by have := qz r c A n cp W; rw [hs.right hl.1] at this; exact this);have AT := za (fun (i k : Nat) (hi : i < r) (hk : k < c) (W : World) (h : zk W A n cp l) => zc8 r c A n cp l hs i k hi hk W h);have HL := za hl
 have h256 := hs.prod;have hr16 := hs.r2;have hc16 := hs.c2;clear hl;unfold zD at R AT;unfold zD;go_enter Tryz.func122, Tryz.ntmps122;go_wp2_with fail;have A0 := za ((At.new w 65 #[.int .i64 (r : Int), .int .i64 (c : Int), .slice A n cp]).alloc (.cells #[.int .i64 0, .int .i64 0, .slice none 0 0] 65));have A1 := za (At.new (w.alloc (.cells #[.int .i64 (r : Int), .int .i64 (c : Int), .slice A n cp] 65)) 65 #[.int .i64 0, .int .i64 0, .slice none 0 0])
 have B0 := za (zg (zg (Below.refl w.heap.size w) (.cells #[.int .i64 (r : Int), .int .i64 (c : Int), .slice A n cp] 65)) (.cells #[.int .i64 0, .int .i64 0, .slice none 0 0] 65));obtain ⟨W0, hW0⟩ := zc (((w.alloc (.cells #[.int .i64 (r : Int), .int .i64 (c : Int), .slice A n cp] 65)).alloc (.cells #[.int .i64 0, .int .i64 0, .slice none 0 0] 65)));simp only [World.size_alloc] at A1;have hWg := za (show W0.heap.size = w.heap.size + 2 by rw [← hW0]; simp)
 rw [hW0] at A0 A1 B0 ⊢;clear hW0;obtain ⟨g, hg⟩ := zc (w.heap.size);rw [hg] at A0 A1 B0 hWg
 try simp only [hg]
 refine (R.out W0).mono ?_;rintro e w1 ⟨rfl, hb1⟩;obtain ⟨m0, m1, m2⟩ := (A0.out.below hb1).three;have B1 := za (zq B0.out (by rw [hWg.out]; omega) hb1);have A0' := za (A0.out.below hb1);have A1' := za (A1.out.below hb1);have hs1 := za hb1.size;clear hb1;obtain ⟨k0, k1, k2⟩ := (A0'.out.alloc (.cells #[.int .i64 (c : Int), .int .i64 (r : Int), .slice none 0 0] 65)).three;go_wp2_with fail;have C0 := za (At.new w1 65 #[.int .i64 (c : Int), .int .i64 (r : Int), .slice none 0 0])
 have D0 := za (zg (Below.refl w1.heap.size w1) (.cells #[.int .i64 (c : Int), .int .i64 (r : Int), .slice none 0 0] 65));obtain ⟨V0, hV0⟩ := zc ((w1.alloc (.cells #[.int .i64 (c : Int), .int .i64 (r : Int), .slice none 0 0] 65)));have hV := za (show V0.heap.size = w1.heap.size + 1 by rw [← hV0]; simp);rw [hV0] at C0 D0 ⊢;clear hV0;obtain ⟨h, hh⟩ := zc (w1.heap.size);rw [hh] at C0 D0 hV
 try simp only [hh]
 have B2 := za (zq B1.out (by have := hs1.out; rw [hWg.out] at this; omega) (by rw [hh]; exact D0.out));have A0'' := za (A0'.out.below (by rw [hh]; exact D0.out));have A1'' := za (A1'.out.below (by rw [hh]; exact D0.out));have hgh : g + 2 ≤ h := by have := hs1.out; rw [hWg.out, hh] at this; exact this
 have hsz := hV.out;clear m0 m1 m2 k0 k1 k2 R;obtain ⟨S, hSd⟩ : ∃ S : Nat → Prop, S = fun k => k < V0.heap.size ∧ k ≠ h := ⟨_, rfl⟩
 have hS : ∀ k, S k → k < V0.heap.size := fun k h => by rw [hSd] at h; exact h.1
 have hSo : ¬ S h := fun h => by rw [hSd] at h; exact h.2 rfl
 have hSi : ∀ k, k < V0.heap.size → k ≠ h → S k := fun k h1 h2 => by rw [hSd]; exact ⟨h1, h2⟩
 clear hSd;have hBw : Below w.heap.size w V0 := by rw [hg]; exact B2.out
 have hSw : ∀ k, k < w.heap.size → S k := fun k hk => hSi k (by rw [hsz]; omega) (by omega)
 go_loopw [17] (fun i wr => ∃ k : Nat, k ≤ c ∧ i = .int .i64 k ∧ ∃ v, Hid (zat S V0 h c r (ZM r c l k) v wr)) (fun i _ => c - (intOf i).toNat)
 case atStart => exact ⟨0, by omega, rfl, _, za ⟨C0.out, zF.nil_ _ _, KB.refl S V0⟩⟩
 case round =>
  obtain ⟨k, hk, rfl, v, H⟩ := hrel
  by_cases hlt : k < c
  ·have hlt' : (k : Int) < (c : Int) := by omega
   obtain ⟨m0, m1, m2⟩ := (H.out.kb.at_ (hSi g (by omega) (by omega)) A0''.out).three;go_wp2_with fail
   go_loopw [22] (fun i wr => ∃ j : Nat, j ≤ r ∧ i = .int .i64 j ∧ ∃ v, Hid (zat S V0 h c r (ZM r c l k ++ zbA c l k j) v wr)) (fun i _ => r - (intOf i).toNat)
   case atStart => exact ⟨0, by omega, rfl, v, za (by simpa [zbA] using H.out)⟩
   case round =>
    obtain ⟨j, hj, rfl, v, H⟩ := hrel
    by_cases hjt : j < r
    ·have hjt' : (j : Int) < (r : Int) := by omega
     have HNr := za ((H.out.kb.nums HL.out hBw hSw));have CA := za (fun (W : World) (h : zk W A n cp l) => AT.out j k hjt hlt W h);obtain ⟨rr, hrr⟩ := zc (atM c l j k);have HRR := za hrr;simp only [hrr] at CA;obtain ⟨L, hL⟩ := zc (ZM r c l k ++ zbA c l k j);have HLE := za hL
     have HLL := za (show L.length ≤ 1000 by
      rw [← hL, List.length_append, zaL, zeD];have := Nat.mul_le_mul_right r hk;have := Nat.mul_comm c r;omega)
     rw [hL] at H;obtain ⟨rv, rl, rh, rb⟩ := rr;clear hL hrr;obtain ⟨m0, m1, m2⟩ := (H.out.kb.at_ (hSi g (by omega) (by omega)) A0''.out).three;have o2 := H.out.box.cell 2;have hgo : some h ≠ v.ownBlock := jF H.out.own (by omega);have hgg : some g ≠ v.ownBlock := jF H.out.own (by omega);go_wp2_with fail;refine qU v.ownBlock.toList [0, 1, 2, 3, 4] [5, 6, 7, 8, 9] (.cons rfl (.cons rfl (.cons rfl (.cons rfl (.cons rfl .nil))))) (.cons rfl (.cons rfl (.cons rfl (.cons rfl (.cons rfl .nil))))) (by kernel_rfl) (by kernel_rfl) (fun c a d v w h => by cases d <;> exact h) ?_
     have km0 := fun x => But.cell m0 (zN hgg) x;have km1 := fun x => But.cell m1 (zN hgg) x;have km2 := fun x => But.cell m2 (zN hgg) x;have ko2 := fun x => But.cell o2 (zN hgo) x
     repeat (go_big_quiet_step (fail))
     refine wpQuiet_nil ?_;clear km0 km1 km2 ko2 m0 m1 m2 o2;refine zp rfl (fun K hK => ?_);go_simp;refine (CA.out _ HNr.out.drew).mono ?_;rintro e w3 ⟨rfl, hb3⟩;replace hb3 := qe hb3;refine hK _ _ (zI ((zB.refl _ _).call hb3)) ?_;clear hK K;refine zp rfl (fun K hK => ?_);go_simp;refine hK _ _ (zI (((zB.refl _ _).call hb3).alloc _)) ?_;clear hK K;refine zp rfl (fun K hK => ?_);have hsW := H.out.kb.size
     refine jO (.tmp 26) (.tmp 31) rfl V0.heap.size v L ⟨rv, rl, rh, rb⟩ _ rfl ((H.out.own.below hb3).alloc _) rfl (At.new' (by simp)) HLL.out (by have := hb3.size; simp; omega) ?_;intro g1 cc1 w4 hown4 hgrow4 hat4 hg1';refine hK _ _ (zI ((((zB.refl _ _).call hb3).alloc _).grown hgrow4 (fun k e => .inl (qK k e)))) ?_;clear hK K;have hbx := za ((((H.out.box.below hb3).alloc _).grown hgrow4 hgo));have e0 := hbx.out.cell 2
     have z0 := hbx.out.frozen 2;have hrowS : ∀ k, v.ownBlock = some k → ¬ S k := fun k e hk => by have := (World.ownsRow.lt H.out.own k e).1; have := hS k hk; omega
     have hSW : ∀ k, S k → k < wr.heap.size := fun k hk => Nat.lt_of_lt_of_le (hS k hk) hsW;have hkb := za (((((KB.refl S wr).call hSW hb3).call hSW (zg (Below.refl _ _) _)).grown hSW hgrow4 hrowS));have HO := za hown4;have HB := za (((((zB.refl wr v.ownBlock.toList).call hb3).alloc (.cells #[rv, rl, rh, rb] 71)).grown hgrow4 (fun k e => .inl (qK k e))));clear hown4 hgrow4 hat4 hb3;refine zp rfl (fun K hK => ?_)
     go_simp;refine hK _ _ (zI HB.out) ?_;clear hK K;refine zX rfl (fun K hK => ?_);go_simp;refine hK _ _ ?_;clear hK K
     have HF := za (show zat S V0 h c r (ZM r c l k ++ zbA c l k (j + 1)) (.slice (some ⟨g1, 0, none⟩) (L.length + 1) cc1) (w4.setCell ⟨h, 2, none⟩ (.slice (some ⟨g1, 0, none⟩) (L.length + 1) cc1)) from
      ⟨hbx.out.set 2 _ rfl, by rw [zhj, ← List.append_assoc, HLE.out, HRR.out]; exact HO.out.kept (ji w4 h 2 _) (.inr (by simp [Value.ownBlock]; omega)), (H.out.kb.trans hkb.out).set hSo _ _⟩)
     clear e0 z0 hbx hkb HO;exact XaY
    ·obtain rfl : j = r := by omega
     rw [← VS] at H;exact Xbl
  ·obtain rfl : k = c := by omega
   obtain ⟨A1, n1, c1, rfl⟩ := zO H.out.own;obtain ⟨s0, s1, s2⟩ := H.out.box.three;have A1r := za (H.out.kb.at_ (hSi (g + 1) (by omega) (by omega)) A1''.out);obtain ⟨r0, r1, r2⟩ := A1r.out.three;have z0 := A1r.out.frozen 0;have z1 := A1r.out.frozen 1;have z2 := A1r.out.frozen 2;go_wp2_with fail;obtain ⟨d0, d1, d2⟩ := (A1r.out.set3 (.int .i64 (k : Int)) (.int .i64 (r : Int)) (.slice A1 n1 c1)).three
   refine bodyPost_ret (v := .agg #[.int .i64 (k : Int), .int .i64 (r : Int), .slice A1 n1 c1]) (by simp [results, Tryz.results122, go_sem, d0, d1, d2]) rfl ⟨A1, n1, c1, rfl, H.out.own.nums.set3 (w := w) A1r.out (qJ A1r.out) _ _ _, ?_, fun b o e => Nat.le_trans (show w.heap.size ≤ V0.heap.size by omega) (zU H.out.own b o e)⟩;exact Xbz
theorem zef (r c : Nat) (A : Option Addr) (n cp : Nat) (l : List Num) (hs : zr r c l) (w : World) (hl : zk w A n cp l) : Calls Tryz.prog 122 #[zD r c A n cp] w (zgo c r (jT r c l) w) := (JC r c A n cp l hs w hl).mono fun _ _ h => h.ret
def Zo (n : Nat) (l : List Num) (i j : Nat) : List Num := (List.range j).map fun k => atM n l (max i k) (min i k)
def J5 (n : Nat) (l : List Num) (k : Nat) : List Num := (List.range k).flatMap fun i => Zo n l i n
def zh2 (n : Nat) (l : List Num) : List Num := J5 n l n
theorem zd8 (n : Nat) (l : List Num) (k i : Nat) : Zo n l k (i + 1) = Zo n l k i ++ [atM n l (max k i) (min k i)] := by unfold Zo; rw [List.range_succ]; simp
theorem za9 (n : Nat) (l : List Num) (k i : Nat) : (Zo n l k i).length = i := by simp [Zo]
theorem za8 (n : Nat) (l : List Num) (k : Nat) : J5 n l (k + 1) = J5 n l k ++ Zo n l k n := by unfold J5; rw [List.range_succ, List.flatMap_append]; simp
theorem zcp (n : Nat) (l : List Num) (k : Nat) : (J5 n l k).length = k * n := by
 induction k with
 | zero => simp [J5]
 | succ k ih => rw [za8, List.length_append, ih, za9, Nat.add_mul, Nat.one_mul]
theorem zr.mir {n : Nat} {l : List Num} (h : zr n n l) : zr n n (zh2 n l) := ⟨h.r1, h.r2, h.c1, h.c2, zcp n l n⟩
theorem V6 (n : Nat) (A : Option Addr) (m cp : Nat) (l : List Num) (hs : zr n n l) (w : World) (hl : zk w A m cp l) : Calls Tryz.prog 123 #[zD n n A m cp] w (qG n n (zh2 n l) w) := by
 have hu := Tryz.underlying65;have hu1 := Tryz.underlying71;have R := za (show ∀ W, Calls Tryz.prog 119 #[zD n n A m cp] W fun e w' => e = .returned (.bool true) ∧ Below W.heap.size W w' from fun W => by have := qz n n A m cp W; rw [hs.right hl.1] at this; exact this);have AT := za (fun (i k : Nat) (hi : i < n) (hk : k < n) (W : World) (h : zk W A m cp l) => zc8 n n A m cp l hs i k hi hk W h);have HL := za hl
 have h256 := hs.prod;have hr16 := hs.r2;clear hl;unfold zD at R AT;unfold zD;go_enter Tryz.func123, Tryz.ntmps123;go_wp2_with fail;have A0 := za ((At.new w 65 #[.int .i64 (n : Int), .int .i64 (n : Int), .slice A m cp]).alloc (.cells #[.int .i64 0, .int .i64 0, .slice none 0 0] 65));have A1 := za (At.new (w.alloc (.cells #[.int .i64 (n : Int), .int .i64 (n : Int), .slice A m cp] 65)) 65 #[.int .i64 0, .int .i64 0, .slice none 0 0])
 have B0 := za (zg (zg (Below.refl w.heap.size w) (.cells #[.int .i64 (n : Int), .int .i64 (n : Int), .slice A m cp] 65)) (.cells #[.int .i64 0, .int .i64 0, .slice none 0 0] 65));obtain ⟨W0, hW0⟩ := zc (((w.alloc (.cells #[.int .i64 (n : Int), .int .i64 (n : Int), .slice A m cp] 65)).alloc (.cells #[.int .i64 0, .int .i64 0, .slice none 0 0] 65)));simp only [World.size_alloc] at A1;have hWg := za (show W0.heap.size = w.heap.size + 2 by rw [← hW0]; simp)
 rw [hW0] at A0 A1 B0 ⊢;clear hW0;obtain ⟨g, hg⟩ := zc (w.heap.size);rw [hg] at A0 A1 B0 hWg
 try simp only [hg]
 refine (R.out W0).mono ?_;rintro e w1 ⟨rfl, hb1⟩;obtain ⟨m0, m1, m2⟩ := (A0.out.below hb1).three;have B1 := za (zq B0.out (by rw [hWg.out]; omega) hb1);have A0' := za (A0.out.below hb1);have A1' := za (A1.out.below hb1);have hs1 := za hb1.size;clear hb1;obtain ⟨k0, k1, k2⟩ := (A0'.out.alloc (.cells #[.int .i64 (n : Int), .int .i64 (n : Int), .slice none 0 0] 65)).three;go_wp2_with fail;have C0 := za (At.new w1 65 #[.int .i64 (n : Int), .int .i64 (n : Int), .slice none 0 0])
 have D0 := za (zg (Below.refl w1.heap.size w1) (.cells #[.int .i64 (n : Int), .int .i64 (n : Int), .slice none 0 0] 65));obtain ⟨V0, hV0⟩ := zc ((w1.alloc (.cells #[.int .i64 (n : Int), .int .i64 (n : Int), .slice none 0 0] 65)));have hV := za (show V0.heap.size = w1.heap.size + 1 by rw [← hV0]; simp);rw [hV0] at C0 D0 ⊢;clear hV0;obtain ⟨h, hh⟩ := zc (w1.heap.size);rw [hh] at C0 D0 hV
 try simp only [hh]
 have B2 := za (zq B1.out (by have := hs1.out; rw [hWg.out] at this; omega) (by rw [hh]; exact D0.out));have A0'' := za (A0'.out.below (by rw [hh]; exact D0.out));have A1'' := za (A1'.out.below (by rw [hh]; exact D0.out));have hgh : g + 2 ≤ h := by have := hs1.out; rw [hWg.out, hh] at this; exact this
 have hsz := hV.out;clear m0 m1 m2 k0 k1 k2 R;obtain ⟨S, hSd⟩ : ∃ S : Nat → Prop, S = fun k => k < V0.heap.size ∧ k ≠ h := ⟨_, rfl⟩
 have hS : ∀ k, S k → k < V0.heap.size := fun k h => by rw [hSd] at h; exact h.1
 have hSo : ¬ S h := fun h => by rw [hSd] at h; exact h.2 rfl
 have hSi : ∀ k, k < V0.heap.size → k ≠ h → S k := fun k h1 h2 => by rw [hSd]; exact ⟨h1, h2⟩
 clear hSd;have hBw : Below w.heap.size w V0 := by rw [hg]; exact B2.out
 have hSw : ∀ k, k < w.heap.size → S k := fun k hk => hSi k (by rw [hsz]; omega) (by omega)
 go_loopw [25] (fun i wr => ∃ k : Nat, k ≤ n ∧ i = .int .i64 k ∧ ∃ v, Hid (zat S V0 h n n (J5 n l k) v wr)) (fun i _ => n - (intOf i).toNat)
 case atStart => exact ⟨0, by omega, rfl, _, za ⟨C0.out, zF.nil_ _ _, KB.refl S V0⟩⟩
 case round =>
  obtain ⟨k, hk, rfl, v, H⟩ := hrel
  by_cases hlt : k < n
  ·have hlt' : (k : Int) < (n : Int) := by omega
   obtain ⟨m0, m1, m2⟩ := (H.out.kb.at_ (hSi g (by omega) (by omega)) A0''.out).three;go_wp2_with fail
   go_loopw [30] (fun i wr => ∃ j : Nat, j ≤ n ∧ i = .int .i64 j ∧ ∃ v, Hid (zat S V0 h n n (J5 n l k ++ Zo n l k j) v wr)) (fun i _ => n - (intOf i).toNat)
   case atStart => exact ⟨0, by omega, rfl, v, za (by simpa [Zo] using H.out)⟩
   case round =>
    obtain ⟨j, hj, rfl, v, H⟩ := hrel
    by_cases hjt : j < n
    ·have hjt' : (j : Int) < (n : Int) := by omega
     have HNr := za ((H.out.kb.nums HL.out hBw hSw));have CA := za (fun (W : World) (h : zk W A m cp l) => AT.out (max k j) (min k j) (by omega) (by omega) W h);obtain ⟨p, hp⟩ := zc (max k j);obtain ⟨q, hq⟩ := zc (min k j);have hpi : max (k : Int) (j : Int) = (p : Int) := by omega
     have hqi : min (k : Int) (j : Int) = (q : Int) := by omega
     have HP := za hp;have HQ := za hq;rw [hp, hq] at CA;clear hp hq;obtain ⟨rr, hrr⟩ := zc (atM n l p q);have HRR := za hrr;simp only [hrr] at CA;obtain ⟨L, hL⟩ := zc (J5 n l k ++ Zo n l k j);have HLE := za hL
     have HLL := za (show L.length ≤ 1000 by
      rw [← hL, List.length_append, zcp, za9];have := Nat.mul_le_mul_right n hk;omega)
     rw [hL] at H;obtain ⟨rv, rl, rh, rb⟩ := rr;clear hL hrr;obtain ⟨m0, m1, m2⟩ := (H.out.kb.at_ (hSi g (by omega) (by omega)) A0''.out).three;have o2 := H.out.box.cell 2;have hgo : some h ≠ v.ownBlock := jF H.out.own (by omega);have hgg : some g ≠ v.ownBlock := jF H.out.own (by omega);go_wp2_with fail;refine qU v.ownBlock.toList [0, 1, 2, 3, 4, 5, 6, 7, 8] [9, 10, 11, 12, 13] (.cons rfl (.cons rfl (.cons rfl (.cons rfl (.cons rfl (.cons rfl (.cons rfl (.cons rfl (.cons rfl .nil))))))))) (.cons rfl (.cons rfl (.cons rfl (.cons rfl (.cons rfl .nil))))) (by kernel_rfl) (by kernel_rfl) (fun c a d v w h => by cases d <;> exact h) ?_
     have km0 := fun x => But.cell m0 (zN hgg) x;have km1 := fun x => But.cell m1 (zN hgg) x;have km2 := fun x => But.cell m2 (zN hgg) x;have ko2 := fun x => But.cell o2 (zN hgo) x
     repeat (go_big_quiet_step (fail))
     refine wpQuiet_nil ?_;clear km0 km1 km2 ko2;refine zp rfl (fun K hK => ?_);go_simp;refine (CA.out _ HNr.out.drew).mono ?_;rintro e w3 ⟨rfl, hb3⟩;replace hb3 := qe hb3;refine hK _ _ (zI ((zB.refl _ _).call hb3)) ?_;clear hK K;refine zp rfl (fun K hK => ?_);go_simp;refine hK _ _ (zI (((zB.refl _ _).call hb3).alloc _)) ?_;clear hK K;refine zp rfl (fun K hK => ?_);have hsW := H.out.kb.size;refine jO (.tmp 34) (.tmp 43) rfl V0.heap.size v L ⟨rv, rl, rh, rb⟩ _ rfl ((H.out.own.below hb3).alloc _) rfl (At.new' (by simp)) HLL.out (by have := hb3.size; simp; omega) ?_
     intro g1 cc1 w4 hown4 hgrow4 hat4 hg1';refine hK _ _ (zI ((((zB.refl _ _).call hb3).alloc _).grown hgrow4 (fun k e => .inl (qK k e)))) ?_;clear hK K;have hbx := za ((((H.out.box.below hb3).alloc _).grown hgrow4 (jF H.out.own (by omega))));have e0 := hbx.out.cell 2;have z0 := hbx.out.frozen 2;have hrowS : ∀ k, v.ownBlock = some k → ¬ S k := fun k e hk => by have := (World.ownsRow.lt H.out.own k e).1; have := hS k hk; omega
     have hSW : ∀ k, S k → k < wr.heap.size := fun k hk => Nat.lt_of_lt_of_le (hS k hk) hsW;have hkb := za (((((KB.refl S wr).call hSW hb3).call hSW (zg (Below.refl _ _) _)).grown hSW hgrow4 hrowS));have HO := za hown4;have HB := za (((((zB.refl wr v.ownBlock.toList).call hb3).alloc (.cells #[rv, rl, rh, rb] 71)).grown hgrow4 (fun k e => .inl (qK k e))));clear hown4 hgrow4 hat4 hb3;refine zp rfl (fun K hK => ?_)
     go_simp;refine hK _ _ (zI HB.out) ?_;clear hK K;refine zX rfl (fun K hK => ?_);go_simp;refine hK _ _ ?_;clear hK K;have HF := za (show zat S V0 h n n (J5 n l k ++ Zo n l k (j + 1)) (.slice (some ⟨g1, 0, none⟩) (L.length + 1) cc1) (w4.setCell ⟨h, 2, none⟩ (.slice (some ⟨g1, 0, none⟩) (L.length + 1) cc1)) from ⟨hbx.out.set 2 _ rfl, by rw [zd8, ← List.append_assoc, HLE.out, HP.out, HQ.out, HRR.out]; exact HO.out.kept (ji w4 h 2 _) (.inr (by simp [Value.ownBlock]; omega)), (H.out.kb.trans hkb.out).set hSo _ _⟩)
     clear e0 z0 hbx hkb HO HB;exact XaY
    ·obtain rfl : j = n := by omega
     rw [← za8] at H;exact Xbl
  ·obtain rfl : k = n := by omega
   obtain ⟨A1, n1, c1, rfl⟩ := zO H.out.own;obtain ⟨s0, s1, s2⟩ := H.out.box.three;have A1r := za (H.out.kb.at_ (hSi (g + 1) (by omega) (by omega)) A1''.out);obtain ⟨r0, r1, r2⟩ := A1r.out.three;have z0 := A1r.out.frozen 0;have z1 := A1r.out.frozen 1;have z2 := A1r.out.frozen 2;go_wp2_with fail;obtain ⟨d0, d1, d2⟩ := (A1r.out.set3 (.int .i64 (k : Int)) (.int .i64 (k : Int)) (.slice A1 n1 c1)).three
   refine bodyPost_ret (v := .tuple #[.agg #[.int .i64 (k : Int), .int .i64 (k : Int), .slice A1 n1 c1], .bool true]) (by simp [results, Tryz.results123, go_sem, d0, d1, d2]) rfl ⟨A1, n1, c1, rfl, H.out.own.nums.set3 (w := w) A1r.out (qJ A1r.out) _ _ _, ?_, fun b o e => Nat.le_trans (show w.heap.size ≤ V0.heap.size by omega) (zU H.out.own b o e)⟩;exact Xbz
end Go.Proofs.YtcoiklclbljjeaaGreatDoor.L
