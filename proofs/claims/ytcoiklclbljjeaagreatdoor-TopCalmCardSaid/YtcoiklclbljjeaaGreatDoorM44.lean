/- Lemmas of the card's proof. -/
import Derived.Test.YtcoiklclbljjeaaGreatDoorM06
import Derived.Test.YtcoiklclbljjeaaGreatDoorM43
set_option linter.unusedVariables false
set_option linter.unusedSimpArgs false
set_option maxRecDepth 100000
set_option maxHeartbeats 16000000
namespace Go.Proofs.YtcoiklclbljjeaaGreatDoor.L
open Go.RowKit
section
attribute [local go_sem] Oper.semAt_some
attribute [local go_sem] QV
theorem Vq (f : Fn) (x y : Array Value) (W : World) : (binOp .eql 86 (.func f x y) .nilFunc).run Tryz.prog W = .ok (.bool false) W := by kernel_rfl
attribute [local go_sem] Vq
theorem zdf {W : World} {g : Nat} {t : TypeId} (xs : List Int) (h : At W g t (xs.map (Value.int .i64)).toArray) : zW W (some ⟨g, 0, none⟩) xs.length xs.length xs := ⟨rfl, Nat.le_refl _, fun _ => ⟨g, 0, rfl, fun k x hk => by rw [Nat.zero_add, h.cell k]; simp [hk]⟩⟩
def hL (g : Nat) : List FrR := [⟨1, 1, 1, some ⟨g + 1 + 1, 0, none⟩, 2, 2, [0, hU]⟩, ⟨2, 2, 1, some ⟨g + 1 + 1 + 1, 0, none⟩, 2, 2, [hU, hU]⟩, ⟨3, 3, 1, some ⟨g + 1 + 1 + 1 + 1, 0, none⟩, 3, 3, [hU, hU, 3 * hU]⟩]
theorem zja {W : World} {g q : Nat} (h1 : At W (g + 1 + 1) 3 #[.int .i64 0, .int .i64 16777216]) (h2 : At W (g + 1 + 1 + 1) 3 #[.int .i64 16777216, .int .i64 16777216]) (h3 : At W (g + 1 + 1 + 1 + 1) 3 #[.int .i64 16777216, .int .i64 16777216, .int .i64 50331648])
  (h : At W q 47 #[.int .i64 1, .int .i64 1, .int .i64 1, .slice (some ⟨g + 1 + 1, 0, none⟩) 2 2, .int .i64 2, .int .i64 2, .int .i64 1, .slice (some ⟨g + 1 + 1 + 1, 0, none⟩) 2 2, .int .i64 3, .int .i64 3, .int .i64 1, .slice (some ⟨g + 1 + 1 + 1 + 1, 0, none⟩) 3 3]) : ziS W (some ⟨q, 0, none⟩) 3 3 (hL g) :=
 ⟨rfl, Nat.le_refl _, fun _ => ⟨q, 0, rfl, fun i f hf => by
  match i, hf with
  | 0, hf => cases hf; exact ⟨h.cell 0, h.cell 1, h.cell 2, h.cell 3, zdf [0, hU] h1, show 2 ≤ 1000 by omega⟩
  | 1, hf => cases hf; exact ⟨h.cell 4, h.cell 5, h.cell 6, h.cell 7, zdf [hU, hU] h2, show 2 ≤ 1000 by omega⟩
  | 2, hf => cases hf; exact ⟨h.cell 8, h.cell 9, h.cell 10, h.cell 11, zdf [hU, hU, 3 * hU] h3, show 3 ≤ 1000 by omega⟩
  | i + 3, hf => simp [hL] at hf⟩⟩
theorem zkl (g : Nat) : (hL g).all FrR.ok = true := by
 have h := zi9;simp only [hL, List.all_cons, List.all_nil, FrR.ok, h.1, h.2.1, h.2.2, Bool.and_self]
theorem zjb (g : Nat) : Z9 (hL g) = hB := rfl
theorem zd5 {l : List Num} {a b c : Int} {d : Bool} (h : l.map (fun x => (x.v, x.l, x.h, x.bad)) = [(a, b, c, d)]) : l = [⟨a, b, c, d⟩] := by
 cases l with
 | nil => cases h
 | cons x t =>
  cases t with
  | cons y t => simp at h
  | nil =>
   obtain ⟨v, l, h', e⟩ := x;simp at h;obtain ⟨rfl, rfl, rfl, rfl⟩ := h;rfl
theorem ziY {α : Type} (p1 p2 p3 : α) (Q : List α → α → Prop) (q1 : Q [] p1) (q2 : Q [p1] p2) (q3 : Q [p1, p2] p3) : ∀ s ys, s ++ [ys] <+: [p1, p2, p3] → Q s ys := by
 rintro s ys ⟨rest, hrest⟩
 match s, hrest with
 | [], h => obtain ⟨rfl, _⟩ := List.cons.inj h; exact q1
 | [a], h => obtain ⟨rfl, h2⟩ := List.cons.inj h; obtain ⟨rfl, _⟩ := List.cons.inj h2; exact q2
 | [a, b], h => obtain ⟨rfl, h2⟩ := List.cons.inj h; obtain ⟨rfl, h3⟩ := List.cons.inj h2; obtain ⟨rfl, _⟩ := List.cons.inj h3; exact q3
 | a :: b :: c :: r, h => have := congrArg List.length h; simp at this
theorem zfv (s : List (List Int)) (ys : List Int) (h : s ++ [ys] <+: [h1B, h2B, h3B]) : zcD (y7 hE0 s) ys = 0 ∧ (zck (y7 hE0 s) ys).h = 33 :=
 ziY h1B h2B h3B (fun s ys => zcD (y7 hE0 s) ys = 0 ∧ (zck (y7 hE0 s) ys).h = 33) ⟨zbl.1, zbk.1⟩ ⟨zbl.2.1, zbk.2.1⟩ ⟨zbl.2.2, zbk.2.2⟩ s ys h
theorem zhC (w : World) (hT : Tab w) : Calls Tryz.prog 7 #[] w fun e w' => e = .returned (.bool true) ∧ Below w.heap.size w w' := by
 have hu := Tryz.underlying47;have hu1 := Tryz.underlying49;have hu2 := Tryz.underlying71;have hu3 := Tryz.underlying82;have hu4 := Tryz.underlying22;have HT := za hT;clear hT;refine (callsIn_wide (n := 30)).1 ?_;refine callsIn_of_wp_marks Tryz.func7 rfl trivial ?_ rfl;simp only [Tryz.ntmps7, List.size_toArray, List.length_cons, List.length_nil, Nat.reduceAdd, Nat.reduceSub, Array.replicate_succ, Array.replicate_zero, List.push_toArray, List.append_toArray, List.nil_append, List.cons_append]
 gi_wp2_with fail;refine ⟨trivial, (zC 29 (zbw 3 (by decide) (by decide) _)).mono ?_⟩;rintro e w1 ⟨rfl, rfl⟩;gi_wp2_with fail;have A0 := za ((((((At.new w 4 #[.bool false]).alloc (.cells (qN false 0 0 ZPC 0 0 3) 98)).alloc (.cells #[.int .i64 0, .int .i64 16777216] 3)).alloc (.cells #[.int .i64 16777216, .int .i64 16777216] 3)).alloc (.cells #[.int .i64 16777216, .int .i64 16777216, .int .i64 50331648] 3)).alloc (.cells #[.int .i64 1, .int .i64 1, .int .i64 1, .slice (some ⟨w.heap.size + 1 + 1, 0, none⟩) 2 2, .int .i64 2, .int .i64 2, .int .i64 1, .slice (some ⟨w.heap.size + 1 + 1 + 1, 0, none⟩) 2 2, .int .i64 3, .int .i64 3, .int .i64 1, .slice (some ⟨w.heap.size + 1 + 1 + 1 + 1, 0, none⟩) 3 3] 47))
 have A1 := za (((((At.new (w.alloc (.cells #[.bool false] 4)) 98 (qN false 0 0 ZPC 0 0 3)).alloc (.cells #[.int .i64 0, .int .i64 16777216] 3)).alloc (.cells #[.int .i64 16777216, .int .i64 16777216] 3)).alloc (.cells #[.int .i64 16777216, .int .i64 16777216, .int .i64 50331648] 3)).alloc (.cells #[.int .i64 1, .int .i64 1, .int .i64 1, .slice (some ⟨w.heap.size + 1 + 1, 0, none⟩) 2 2, .int .i64 2, .int .i64 2, .int .i64 1, .slice (some ⟨w.heap.size + 1 + 1 + 1, 0, none⟩) 2 2, .int .i64 3, .int .i64 3, .int .i64 1, .slice (some ⟨w.heap.size + 1 + 1 + 1 + 1, 0, none⟩) 3 3] 47))
 have A2 := za ((((At.new ((w.alloc (.cells #[.bool false] 4)).alloc (.cells (qN false 0 0 ZPC 0 0 3) 98)) 3 #[.int .i64 0, .int .i64 16777216]).alloc (.cells #[.int .i64 16777216, .int .i64 16777216] 3)).alloc (.cells #[.int .i64 16777216, .int .i64 16777216, .int .i64 50331648] 3)).alloc (.cells #[.int .i64 1, .int .i64 1, .int .i64 1, .slice (some ⟨w.heap.size + 1 + 1, 0, none⟩) 2 2, .int .i64 2, .int .i64 2, .int .i64 1, .slice (some ⟨w.heap.size + 1 + 1 + 1, 0, none⟩) 2 2, .int .i64 3, .int .i64 3, .int .i64 1, .slice (some ⟨w.heap.size + 1 + 1 + 1 + 1, 0, none⟩) 3 3] 47))
 have A3 := za (((At.new (((w.alloc (.cells #[.bool false] 4)).alloc (.cells (qN false 0 0 ZPC 0 0 3) 98)).alloc (.cells #[.int .i64 0, .int .i64 16777216] 3)) 3 #[.int .i64 16777216, .int .i64 16777216]).alloc (.cells #[.int .i64 16777216, .int .i64 16777216, .int .i64 50331648] 3)).alloc (.cells #[.int .i64 1, .int .i64 1, .int .i64 1, .slice (some ⟨w.heap.size + 1 + 1, 0, none⟩) 2 2, .int .i64 2, .int .i64 2, .int .i64 1, .slice (some ⟨w.heap.size + 1 + 1 + 1, 0, none⟩) 2 2, .int .i64 3, .int .i64 3, .int .i64 1, .slice (some ⟨w.heap.size + 1 + 1 + 1 + 1, 0, none⟩) 3 3] 47))
 have A4 := za ((At.new ((((w.alloc (.cells #[.bool false] 4)).alloc (.cells (qN false 0 0 ZPC 0 0 3) 98)).alloc (.cells #[.int .i64 0, .int .i64 16777216] 3)).alloc (.cells #[.int .i64 16777216, .int .i64 16777216] 3)) 3 #[.int .i64 16777216, .int .i64 16777216, .int .i64 50331648]).alloc (.cells #[.int .i64 1, .int .i64 1, .int .i64 1, .slice (some ⟨w.heap.size + 1 + 1, 0, none⟩) 2 2, .int .i64 2, .int .i64 2, .int .i64 1, .slice (some ⟨w.heap.size + 1 + 1 + 1, 0, none⟩) 2 2, .int .i64 3, .int .i64 3, .int .i64 1, .slice (some ⟨w.heap.size + 1 + 1 + 1 + 1, 0, none⟩) 3 3] 47))
 have A5 := za (At.new (((((w.alloc (.cells #[.bool false] 4)).alloc (.cells (qN false 0 0 ZPC 0 0 3) 98)).alloc (.cells #[.int .i64 0, .int .i64 16777216] 3)).alloc (.cells #[.int .i64 16777216, .int .i64 16777216] 3)).alloc (.cells #[.int .i64 16777216, .int .i64 16777216, .int .i64 50331648] 3)) 47 #[.int .i64 1, .int .i64 1, .int .i64 1, .slice (some ⟨w.heap.size + 1 + 1, 0, none⟩) 2 2, .int .i64 2, .int .i64 2, .int .i64 1, .slice (some ⟨w.heap.size + 1 + 1 + 1, 0, none⟩) 2 2, .int .i64 3, .int .i64 3, .int .i64 1, .slice (some ⟨w.heap.size + 1 + 1 + 1 + 1, 0, none⟩) 3 3])
 have B0 := za (zg (zg (zg (zg (zg (zg (Below.refl w.heap.size w) (.cells #[.bool false] 4)) (.cells (qN false 0 0 ZPC 0 0 3) 98)) (.cells #[.int .i64 0, .int .i64 16777216] 3)) (.cells #[.int .i64 16777216, .int .i64 16777216] 3)) (.cells #[.int .i64 16777216, .int .i64 16777216, .int .i64 50331648] 3)) (.cells #[.int .i64 1, .int .i64 1, .int .i64 1, .slice (some ⟨w.heap.size + 1 + 1, 0, none⟩) 2 2, .int .i64 2, .int .i64 2, .int .i64 1, .slice (some ⟨w.heap.size + 1 + 1 + 1, 0, none⟩) 2 2, .int .i64 3, .int .i64 3, .int .i64 1, .slice (some ⟨w.heap.size + 1 + 1 + 1 + 1, 0, none⟩) 3 3] 47))
 obtain ⟨W0, hW0⟩ := zc (((((((w.alloc (.cells #[.bool false] 4)).alloc (.cells (qN false 0 0 ZPC 0 0 3) 98)).alloc (.cells #[.int .i64 0, .int .i64 16777216] 3)).alloc (.cells #[.int .i64 16777216, .int .i64 16777216] 3)).alloc (.cells #[.int .i64 16777216, .int .i64 16777216, .int .i64 50331648] 3)).alloc (.cells #[.int .i64 1, .int .i64 1, .int .i64 1, .slice (some ⟨w.heap.size + 1 + 1, 0, none⟩) 2 2, .int .i64 2, .int .i64 2, .int .i64 1, .slice (some ⟨w.heap.size + 1 + 1 + 1, 0, none⟩) 2 2, .int .i64 3, .int .i64 3, .int .i64 1, .slice (some ⟨w.heap.size + 1 + 1 + 1 + 1, 0, none⟩) 3 3] 47)))
 simp only [World.size_alloc] at A1 A2 A3 A4 A5;have hWg := za (show W0.heap.size = w.heap.size + 6 by rw [← hW0]; simp);rw [hW0] at A0 A1 A2 A3 A4 A5 B0 ⊢;clear hW0;obtain ⟨g, hg⟩ := zc (w.heap.size);rw [hg] at A0 A1 A2 A3 A4 A5 B0 hWg
 try simp only [hg]
 have HFR := za (zja A2.out A3.out A4.out A5.out);have HT0 := za (HT.out.below (by rw [hg]; exact B0.out));refine ⟨trivial, (zC 29 (zgB _ 3 3 (hL g) (by decide) W0 HT0.out HFR.out)).mono ?_⟩;rintro e w2 ⟨(⟨_, v, rfl, ho⟩ | ⟨hno, _⟩), hb⟩
 case inr => exact absurd (zkl g) (by rw [hno]; decide)
 rw [zjb] at ho;have HF := za (fun q (e : v.ownBlock = some q) => (World.ownsRow.lt ho q e).1);obtain ⟨A9, c9, hv, hby⟩ := Vs ho;obtain ⟨n9, hn9⟩ : ∃ x, hB.length = x := ⟨_, rfl⟩
 rw [hn9] at hv hby;have HBY := za hby;have R0 := za (A0.out.below hb);have R1 := za (A1.out.below hb);have HT2 := za (HT0.out.below hb);have B2 := za ((show Below w.heap.size w W0 by rw [hg]; exact B0.out).trans (hb.mono (by have := hWg.out; omega)));have hsz2 := hb.size;subst hv;clear hby ho hb;gi_wp2_with fail;refine ⟨trivial, (zC 29 (zb7 (g + 1) A9 n9 c9 _)).mono ?_⟩;rintro e w3 ⟨rfl, rfl⟩;unfold zdO
 gi_wp2_with fail;obtain ⟨W4, hW4⟩ := zc ((((w2.alloc (.cells #[.int .i64 0] 3)).alloc (.cells #[.pointer (some ⟨g + 1, 0, none⟩)] 26)).alloc (.cells #[.slice A9 n9 c9] 41)));have hb4 : Below w2.heap.size w2 W4 := by rw [← hW4]; exact zg (zg (zg (Below.refl _ w2) _) _) _
 have q0 : At W4 w2.heap.size 3 #[.int .i64 0] := by rw [← hW4]; exact ((At.new w2 3 #[.int .i64 0]).alloc _).alloc _
 have q1 : At W4 (w2.heap.size + 1) 26 #[.pointer (some ⟨g + 1, 0, none⟩)] := by rw [← hW4]; exact (show At ((w2.alloc (.cells #[.int .i64 0] 3)).alloc (.cells #[.pointer (some ⟨g + 1, 0, none⟩)] 26)) (w2.heap.size + 1) 26 #[.pointer (some ⟨g + 1, 0, none⟩)] from At.new' (by simp)).alloc _
 have q2 : At W4 (w2.heap.size + 1 + 1) 41 #[.slice A9 n9 c9] := by rw [← hW4]; exact At.new' (by simp)
 have hs4 : W4.heap.size = w2.heap.size + 3 := by rw [← hW4]; simp
 rw [hW4];clear hW4;have S0 : StK (g + 1) 3 hE0 (w2.heap.size + 1) (w2.heap.size + 1 + 1) A9 n9 c9 hB [] W4 := ⟨HT2.out.below hb4, q1, q2, HBY.out.below hb4, ZPC, rfl, R1.out.below hb4, fun h => (by cases h), fun _ => rfl⟩
 have q9 := R0.out.below hb4;have hn0 : 0 < n9 := by rw [← hn9]; decide +kernel
 have hAb : ∀ q o, A9 = some ⟨q, o, none⟩ → q < w2.heap.size := fun q o e => by
  obtain ⟨b', o', e', hc'⟩ := HBY.out.2.2 hn0;rw [e] at e';cases e';obtain ⟨x, hx⟩ : ∃ x, hB[0]? = some x := ⟨_, List.getElem?_eq_getElem (by rw [hn9]; exact hn0)⟩
  exact World.block_lt_of_cell? w2 ⟨q, o + 0, none⟩ (hc' 0 x hx)
 have hAg : ∀ q o, A9 = some ⟨q, o, none⟩ → g + 1 < q := fun q o e => by have := HF.out q (by rw [e]; rfl); have := hWg.out; omega
 have hgle : g ≤ w.heap.size := by omega
 have BW : Below g w W4 := by rw [← hg]; exact B2.out.trans (hb4.mono B2.out.size)
 obtain ⟨b, hb⟩ := zc (w2.heap.size);rw [hb] at q0 q1 q2 hs4 S0 hsz2 hAb ⊢;have hgb : g + 6 ≤ b := by have := hWg.out; omega
 have hBB : IsB hB := by unfold IsB; decide +kernel
 have h9 : n9 ≤ 10000 := by rw [← hn9]; decide +kernel
 refine zdI rfl (by omega) (gf := 60) (lb := #[.pointer (some ⟨b + 1, 0, none⟩), .pointer (some ⟨b + 1 + 1, 0, none⟩)]) rfl trivial zis
  (zgy 20 (g + 1) 3 hE0 zfw (b + 1) (b + 1 + 1) A9 n9 c9 hB h9 hBB) (fun s W0 args s' W1 h => by obtain ⟨_, _, _, _, _, _, hk, _⟩ := h; exact hk) (fun s W W' h => yE h) (fun s W0 args s' W1 h => (StY.size _ _ _ _ _ h).trans rfl)
  (fun N s W => StK (g + 1) 3 hE0 (b + 1) (b + 1 + 1) A9 n9 c9 hB s W ∧ At W b 3 #[.int .i64 (s.length : Int)] ∧ At W g 4 #[.bool false] ∧ Below g w W)
  (fun N s W h => h.1) (fun N s W W' row h hgr hr => ⟨h.1.row hgr (fun r e => (hr r e).2.2), qx h.2.1 hgr (fun r e => (hr r e).2.2), qx h.2.2.1 hgr (fun r e => (hr r e).2.2), h.2.2.2.grown hgr (Nat.le_trans hgle h.2.2.2.size) (fun r e => by have := (hr r e).1; omega)⟩)
  (fun N s W W' _ h hb => ⟨h.1.below hb, h.2.1.below hb, h.2.2.1.below hb, zq h.2.2.2 (Nat.le_trans hgle h.2.2.2.size) hb⟩) (fun N _ => ⟨S0, q0, q9, BW⟩) ?round ?done
 case round =>
  rintro l N s s' args Wa Wb hl hl2 hN hNa ⟨hS, hc, hf, hBw⟩ ⟨rr, hrr⟩ ⟨ys, u, rfl, hpre, hde, ht, hkf, hng, rfl, hrec, _⟩;rw [V9] at hpre
  have hsl : s.length ≤ 2 := by
   obtain ⟨t, ht⟩ := hpre;have := congrArg List.length ht;simp at this;omega
  obtain ⟨hE3, hH3⟩ := zfv s ys hpre;unfold zcD at hE3;unfold zck at hH3;rw [hE3];obtain ⟨v1, v2, hu9, ho1, ho2⟩ := hrec;obtain ⟨a1, a2, a3, rfl⟩ := jQ ho1;obtain ⟨d1, d2, d3, rfl⟩ := jQ ho2;rw [hH3] at hu9;subst hu9;obtain ⟨rq, hrq⟩ := zc ((ZA (y7 hE0 s) (ys.getD 2 0) (Qd ys) (ys.getD 3 0) (dL ys)).q);rw [hrq];have S1 := za (hS.next ht (by omega) (by omega) (by omega) (fun q o e => by have := hAg q o e; omega) hng)
  have C1 := za (ht.at_ hc (by simp; omega));have F1 := za (ht.at_ hf (by simp));have BW1 := za (zE.low hBw (Nat.le_trans hgle hBw.size) ht (fun q hq => by simp at hq; omega));have hszb : b + 3 ≤ Wb.heap.size := by have := hl; have := ht.size; omega
  have hbn := zg (Below.refl _ Wb) (.cells #[.int .i64 33, rq, .slice a1 a2 a3, .slice d1 d2 d3] 49);have D0 := za (show At (Wb.alloc (.cells #[.int .i64 33, rq, .slice a1 a2 a3, .slice d1 d2 d3] 49)) Wb.heap.size 49 #[.int .i64 33, rq, .slice a1 a2 a3, .slice d1 d2 d3] from At.new _ _ _);replace S1 := za (S1.out.below hbn);replace C1 := za (C1.out.below hbn);replace F1 := za (F1.out.below hbn);replace BW1 := za (zq BW1.out (Nat.le_trans hgle BW1.out.size) hbn)
  have hbsz := hbn.size;clear hS hc hf hBw hpre hde hkf hng hrq hE3 hH3 ho1 ho2;gi_wp2_with fail;refine ⟨yE (zg (Below.refl _ Wb) _), fun W3 hgr ho hlr => ?_⟩;have hrow : ∀ r, some l = some r → ∃ o : Obj, (Wb.alloc (.cells #[.int .i64 33, rq, .slice a1 a2 a3, .slice d1 d2 d3] 49)).heap[r]? = some o ∧ o.isCells = false := fun r e => by cases e; exact ho
  replace S1 := za (S1.out.row hgr hrow);replace C1 := za (qx C1.out hgr hrow);replace F1 := za (qx F1.out hgr hrow);replace D0 := za (qx D0.out hgr hrow);replace BW1 := za (BW1.out.grown hgr (Nat.le_trans hgle BW1.out.size) (fun r e => by cases e; omega));have K3 := za (fun k (hk : k ≠ l) (hk2 : k < Wb.heap.size) => (hgr.block k (by have := hbsz; omega) (fun e => by cases e; exact hk rfl)).trans (hbn.block k hk2))
  clear hgr hrow hbn ho;obtain ⟨d0, d1', d2', d3'⟩ := D0.out.four;have c0 := C1.out.one;have hsi : (s.length : Int) ≤ 2 := by omega
  have z0 := C1.out.frozen 0;gi_wp2_with fail;have OB := z7.set b 0 W3 (.int .i64 ((s.length : Int) + 1));refine ⟨zY _ _ _ _, ⟨S1.out.nob (NoB.int C1.out) OB (by omega) (by omega) (by omega) (by omega) (fun q o e _ => by have := hAb q o e; omega), ?_, OB.at_ F1.out (by omega), zE.low BW1.out (Nat.le_trans hgle BW1.out.size) (OB.touch (G := [b]) (by simp)) (fun q hq => by simp at hq; omega)⟩, fun k h1 h2 => ?_⟩
  ·rw [List.length_append]
   exact C1.out.set1 (.int .i64 ((s.length : Int) + 1))
  ·exact (OB.block k (by omega)).trans (K3.out k (by omega) (by have := ht.size; omega))
 case done =>
  rintro D N s W hD hD2 hT9 ⟨hS, hc, hf, hBw⟩ hdf;have hT9 := hT9.trans V9;subst hT9;have HEnd := zig;have hok := zfT zfw [h1B, h2B, h3B];obtain ⟨_, _, _, _, hng⟩ := hS;obtain ⟨xE, hxE⟩ : ∃ x, y7 hE0 [h1B, h2B, h3B] = x := ⟨_, rfl⟩
  rw [hxE] at HEnd hok hng;clear hxE;obtain ⟨hon, hrn, hrx⟩ := HEnd;obtain ⟨pc, hpc, hE, hO, _⟩ := hng;have hpr := hok.pr hon;have hx1 := zd5 hrx;have OQ := za (Vi.q hO hon);have HE := za hE;have HC := za hc;have HFl := za hf;have HBw := za hBw;have HD := za hdf;have hn1 : xE.r.n ≤ 4 := by omega
  have hpl : xE.r.p.length ≤ 1000 := by have := hpr.2.1.len; rw [hrn] at this; omega
  have hsl : xE.r.s.length ≤ 1000 := by have := hpr.2.2.len; rw [hrn] at this; omega
  clear hE hO hc hf hBw hdf hrx;gi_wp2_with fail;refine ⟨trivial, (zC 29 (zey (g + 1) xE.on xE.pn xE.ps pc xE.m xE.st 3 hpc xE.r _ hn1 hpl hsl W HE.out OQ.out)).mono ?_⟩;rintro e w5 ⟨⟨v, rfl, hv⟩, hb5⟩;have HV := za (qp.of_Q hv hpr);obtain ⟨qc, rfl, _, _⟩ := hv.agg;replace HC := za (HC.out.below hb5);replace HFl := za (HFl.out.below hb5);replace HBw := za (zq HBw.out (Nat.le_trans hgle HBw.out.size) hb5)
  replace HD := za ((hb5.block D (Array.getElem?_eq_some_iff.1 HD.out).1).trans HD.out);clear hb5 hv OQ HE;gi_wp2_with fail;refine ⟨trivial, (zC 29 HV.out.state0).mono ?_⟩;rintro e w6 ⟨A7, n7, c7, rfl, hown, hb6⟩;have hN7 := zL hown;replace HC := za (HC.out.below hb6);replace HFl := za (HFl.out.below hb6);replace HBw := za (zq HBw.out (Nat.le_trans hgle HBw.out.size) hb6);replace HD := za ((hb6.block D (Array.getElem?_eq_some_iff.1 HD.out).1).trans HD.out)
  have NX := hown.nums;rw [hx1] at hN7 NX;clear hb6 hown HV;obtain rfl : n7 = 1 := hN7;obtain ⟨b7, o7, x7, rfl, hx7, x0, x1, x2, x3⟩ := NX.at_ (k := 0) (by decide);obtain rfl : _ = x7 := Option.some.inj hx7;have hc7 : ¬ c7 = 0 := by have := NX.2.1; omega
  have c0 := (show At w6 b 3 #[.int .i64 3] from HC.out).one;have hl1 := zgT;have EN := za (fun W => YW 33554433 33554430 33554433 2 1 (by decide) (by decide) (by decide) (by decide) (by decide) (by decide) (by decide) (by decide) hl1.1 hl1.2.1 hl1.2.2 W);simp only [Nat.zero_mul, Nat.add_zero] at x0 x1 x2 x3;clear NX hx7 hl1;gi_wp2_with fail;refine ⟨trivial, (zC 29 (EN.out w6)).mono ?_⟩;rintro e w7 ⟨rfl, hb7⟩
  replace HFl := za (HFl.out.below hb7);replace HBw := za (zq HBw.out (Nat.le_trans hgle HBw.out.size) hb7);replace HD := za ((hb7.block D (Array.getElem?_eq_some_iff.1 HD.out).1).trans HD.out);have z0 := HFl.out.frozen 0;have f0 := HFl.out.one;clear hb7 x0 x1 x2 x3 c0;gi_wp2_with fail;have OB := z7.set g 0 w7 (.bool true);have K9 := (OB.block D (by omega)).trans HD.out;have d0 := (qx (HFl.out.set1 (.bool true)) (grownBy_putObj' _ D (.deferred none)) (fun r e => by cases e; exact ⟨_, K9, rfl⟩)).one
  have BF := zE.low HBw.out (Nat.le_trans hgle HBw.out.size) (OB.touch (G := [g]) (by simp)) (fun q hq => by simp at hq; omega);refine ⟨by simp, .inl ⟨_, _, rfl, run_takeDeferred K9, ?_⟩⟩;exact ⟨.bool true, (by simp only [results, Tryz.results7]; simp [go_sem, d0]), rfl, by rw [hg]; exact qA BF (Nat.le_trans hgle BF.size) (by omega) _⟩
end
theorem Xa9 {P : Prop} (h : P := by
 go_wp2_with fail;refine (TH.out _ HTr.out).mono ?_;rintro e w9 ⟨rfl, hb9⟩;go_wp2_with fail;go_ret;exact ⟨rfl, zq HBw.out HBw.out.size hb9⟩) : P := h
theorem Xbo {P : Prop} (h : P := by
 go_roundw
 case rel => exact ⟨j + 1, fx, by omega, by go_num, hok', HG4, HB4⟩
 case measure => simp [intOf]; omega) : P := h
section
attribute [local go_sem] Oper.semAt_some
structure BR where
 A : Option Addr
 n : Nat
 c : Nat
 xs : List Int
def zeM (W : World) (A : Option Addr) (n c : Nat) (L : List BR) : Prop :=
 L.length = n ∧ n ≤ c ∧ (0 < n → ∃ b o, A = some ⟨b, o, none⟩ ∧ ∀ i f, L[i]? = some f → W.cell? ⟨b, o + i, none⟩ = some (.slice f.A f.n f.c) ∧ qw W f.A f.n f.c f.xs ∧ IsB f.xs)
theorem zeM.below {W W' : World} {A : Option Addr} {n c : Nat} {L : List BR} (h : zeM W A n c L) (hb : Below W.heap.size W W') : zeM W' A n c L :=
 ⟨h.1, h.2.1, fun hn => by
  obtain ⟨b, o, e, h⟩ := h.2.2 hn;exact ⟨b, o, e, fun i f hf => ⟨qm hb _ _ _ (h i f hf).1, (h i f hf).2.1.below hb, (h i f hf).2.2⟩⟩⟩
theorem zjG {x : ES} (hx : OkE x) {k s n : Int} {l : List Int} (h : jU x k s n l = 0) : (ZA x k s n l).h = 33 ∨ (ZA x k s n l).h = 49 ∨ (ZA x k s n l).h = 3 ∨ (ZA x k s n l).h = 19 := by
 have hk := hx.take k s n l;have ho : (zeu x k s n l).on = true := by unfold zeu; split <;> rfl
 unfold QS at hk;unfold ZA;rw [if_pos h] at hk;rw [if_pos h];obtain ⟨hm, _⟩ := hk.run ho;unfold vU;rcases hm with ⟨e, _⟩ | ⟨e, _⟩
 ·rw [e, if_pos rfl]
  show z6 1 _ = 33 ∨ z6 1 _ = 49 ∨ z6 1 _ = 3 ∨ z6 1 _ = 19;unfold z6
  split <;> simp
 ·rw [e, if_neg (by decide)]
  show z6 3 _ = 33 ∨ z6 3 _ = 49 ∨ z6 3 _ = 3 ∨ z6 3 _ = 19;unfold z6
  split <;> simp
theorem zj2 {x : ES} (hx : OkE x) {xs : List Int} (h : JI x xs = 0) : (YV x xs).h = 33 ∨ (YV x xs).h = 49 ∨ (YV x xs).h = 3 ∨ (YV x xs).h = 19 := by
 unfold JI at h;unfold YV
 by_cases e : jl xs = 0
 ·rw [if_neg (by omega)] at h
  rw [if_neg (by omega)];exact zjG hx h
 ·rw [if_pos e] at h
  exact absurd h e
theorem zjd {x : ES} (hx : OkE x) (xs : List Int) : OkE (zcC x xs) := by
 unfold zcC
 split
 ·exact hx
 ·exact hx.take _ _ _ _
def E00 : ES := ⟨false, 0, 0, zeN, 0, 0⟩
theorem zj7 : OkE E00 := zfw
theorem OkE.mode {x : ES} (h : OkE x) : x.m = 0 ∨ x.m = 1 ∨ x.m = 3 := by
 cases e : x.on with
 | false => exact .inl (h.off e).1
 | true =>
  rcases (h.run e).1 with h | h
  ·exact .inr (.inl h.1)
  ·exact .inr (.inr h.1)
theorem zhD (bd : Int) (A : Option Addr) (n c : Nat) (L : List BR) (w : World) (hT : Tab w) (hx : zeM w A n c L) :
  Calls Tryz.prog 4 #[bd, .slice A n c] w fun e w' => e = .returned (.bool true) ∧ Below w.heap.size w w' := by
 have hu1 := Tryz.underlying49;have hu2 := Tryz.underlying61;have hu3 := Tryz.underlying80;have hu4 := Tryz.underlying41;have HT := za hT;have HX := za hx;have LX := hx.1;have hcap := hx.2.1;have TH := za zhC;clear hT hx
 by_cases hbd : bd < 0 ∨ 1048576 < bd
 ·have NW := za (fun W => zb8 bd hbd W)
  clear hbd;go_enter Tryz.func4, Tryz.ntmps4;go_wp2_with fail;refine (NW.out _).mono ?_;rintro e w1 ⟨rfl, rfl⟩;go_wp2_with fail;refine (TH.out _ HT.out).mono ?_;rintro e w9 ⟨rfl, hb9⟩;go_wp2_with fail;go_ret;exact ⟨rfl, hb9⟩
 ·have NW := za (fun W => zbw bd (by omega) (by omega) W)
  clear hbd
  by_cases h20 : 20 < n
  ·have h20I : (20 : Int) < (n : Int) := by omega
   go_enter Tryz.func4, Tryz.ntmps4;go_wp2_with fail;refine (NW.out _).mono ?_;rintro e w1 ⟨rfl, rfl⟩;have hb0 := zg (Below.refl _ w) (.cells (qN false 0 0 ZPC 0 0 bd) 98);go_wp2_with fail;refine (TH.out _ (HT.out.below hb0)).mono ?_;rintro e w9 ⟨rfl, hb9⟩;go_wp2_with fail;go_ret;exact ⟨rfl, zq hb0 hb0.size hb9⟩
  ·have h20I : ¬ (20 : Int) < (n : Int) := by omega
   go_enter Tryz.func4, Tryz.ntmps4;go_wp2_with fail;refine (NW.out _).mono ?_;rintro e w1 ⟨rfl, rfl⟩;obtain ⟨W0, hW0⟩ := zc (w.alloc (.cells (qN false 0 0 ZPC 0 0 bd) 98));have hb0 : Below w.heap.size w W0 := by rw [← hW0]; exact zg (Below.refl _ w) _
   have hA0 : At W0 w.heap.size 98 (qN false 0 0 ZPC 0 0 bd) := by rw [← hW0]; exact At.new w 98 _
   rw [hW0];clear hW0;obtain ⟨E, hE⟩ := zc (w.heap.size);rw [hE] at hA0 hb0
   try rw [hE]
   have B0 := za hb0;have G0 := za (show vk E bd E00 W0 from ⟨ZPC, rfl, hA0, fun h => (by cases h), fun _ => rfl⟩);clear hb0 hA0 NW;go_wp2_with fail
   go_loopw [7, 8, 9, 10, 23] (fun _ _ _ _ i wr => ∃ (j : Nat) (x : ES), j ≤ n ∧ i = .int .i64 j ∧ OkE x ∧ Hid (vk E bd x wr) ∧ Hid (Below E w wr)) (fun _ _ _ _ i _ => n - (intOf i).toNat)
   case atStart => exact ⟨0, E00, by omega, rfl, zj7, G0, B0⟩
   case round =>
    obtain ⟨j, x, hj, rfl, hok, HG, HB⟩ := hrel;have HBw := za (show Below w.heap.size w wr by rw [hE]; exact HB.out);have HTr := za (HT.out.below HBw.out);have HXr := za (HX.out.below HBw.out)
    by_cases hlt : j < n
    ·have hltI : (j : Int) < (n : Int) := by omega
     obtain ⟨f, hf⟩ : ∃ f, L[j]? = some f := ⟨_, List.getElem?_eq_getElem (by omega)⟩
     obtain ⟨b, o, rfl, hc⟩ := HXr.out.2.2 (by omega);obtain ⟨x0, hby, hib⟩ := hc j f hf;have HBY := za hby;have HIB := za hib;have hcj : j < c := by omega
     obtain ⟨fA, fn, fc, xs⟩ := f;dsimp only at x0 HBY HIB;clear hc hf hby hib
     by_cases h600 : 600 < fn
     ·have h600I : (600 : Int) < (fn : Int) := by omega
      exact Xa9
     ·have h600I : ¬ (600 : Int) < (fn : Int) := by omega
      obtain ⟨pc, hpc, hE1, hO1, hZ1⟩ := HG.out;have HE1 := za hE1;have HO1 := za hO1;have hEl := hE1.lt;have FE := za (zez E bd x hok pc hpc fA fn fc xs (by omega) HIB.out wr HTr.out hE1 hO1 HBY.out);have hfh := fun h => zj2 (x := x) hok (xs := xs) h;have hok' := zjd hok xs;obtain ⟨fe, hfe⟩ : ∃ q, JI x xs = q := ⟨_, rfl⟩
      obtain ⟨fx, hfx⟩ : ∃ q, zcC x xs = q := ⟨_, rfl⟩
      obtain ⟨fr, hfr⟩ : ∃ q, YV x xs = q := ⟨_, rfl⟩
      rw [hfe, hfr] at hfh;rw [hfx] at hok';rw [hfe, hfx, hfr] at FE;clear hE1 hO1 hfe hfx hfr;go_wp2_with fail;refine FE.out.mono ?_;rintro e w1 ⟨⟨u, rfl, v1, v2, rfl, ho1, ho2⟩, ht, hp⟩;obtain ⟨a1, a2, a3, rfl⟩ := jQ ho1;obtain ⟨d1, d2, d3, rfl⟩ := jQ ho2;have HG1 := za (vk.next HO1.out hZ1 hEl ht hp);have HB1 := za (zE.low HB.out (by omega) ht (fun q hq => by simp at hq; omega));have hs1 := ht.size
      obtain ⟨rh, rq, rX, rD⟩ := fr;dsimp only at hfh ⊢;clear ho1 ho2 ht hp FE;go_wp2_with fail;obtain ⟨X1, hX1⟩ := zc (w1.alloc (.cells #[rh, rq, .slice a1 a2 a3, .slice d1 d2 d3] 49));have hbn : Below w1.heap.size w1 X1 := by rw [← hX1]; exact zg (Below.refl _ w1) _
      have D0 := za (show At X1 w1.heap.size 49 #[rh, rq, .slice a1 a2 a3, .slice d1 d2 d3] by rw [← hX1]; exact At.new _ _ _);rw [hX1];clear hX1;have HG2 := za (HG1.out.row (zQ hbn) (fun r e => by cases e));have HB2 := za (zq HB1.out (by have := HB1.out.size; omega) hbn);clear hbn;obtain ⟨pc2, hpc2, hE2, hO2, _⟩ := HG2.out;refine (zds E fx.on fx.pn fx.ps pc2 fx.m fx.st bd hpc2 X1 hE2).mono ?_;rintro e w2 ⟨rfl, hb2⟩
      have D1 := za (D0.out.below hb2);have HG3 := za (HG2.out.row (zQ hb2) (fun r e => by cases e));have HB3 := za (zq HB2.out (by have := HB2.out.size; omega) hb2);have hmo := hok'.mode;obtain ⟨fm, hfm⟩ : ∃ q, fx.m = q := ⟨_, rfl⟩
      obtain ⟨fs, hfs⟩ : ∃ q, fx.st = q := ⟨_, rfl⟩
      rw [hfm] at hmo;rw [hfm, hfs];clear hfm hfs hb2 hE2 hO2 hpc2;have D2 := za (D1.out.alloc (.cells #[fm, .int .i64 0, .int .i64 0, fs] 61));have e2 := At.new w2 61 #[fm, .int .i64 0, .int .i64 0, fs];obtain ⟨y0, y1, y2, y3⟩ := e2.four;obtain ⟨d0, d1', d2', d3'⟩ := D2.out.four;have hbn := zg (Below.refl _ w2) (.cells #[fm, .int .i64 0, .int .i64 0, fs] 61);have HG4 := za (HG3.out.row (zQ hbn) (fun r e => by cases e))
      have HB4 := za (zq HB3.out (by have := HB3.out.size; omega) hbn);clear hbn D0 D1 HG1 HG2 HG3 HB1 HB2 HB3;unfold ye
      by_cases hfe0 : fe = 0
      ·subst hfe0
       rcases hfh rfl with rfl | rfl | rfl | rfl <;> rcases hmo with rfl | rfl | rfl <;>
       ·go_wp2_with fail
        exact Xbo
      ·rcases hmo with rfl | rfl | rfl <;>
       ·go_wp2_with fail
        exact Xbo
    ·obtain rfl : n = j := by omega
     exact Xa9
end
end Go.Proofs.YtcoiklclbljjeaaGreatDoor.L
