-- Written by the kit's print.py for this seat over wip/F/doctor.py, then turned by wip/F/fix.py.
import Derived.Test.YtbpbeighpaaeaaaGx0
import Derived.Test.YtbpbeighpaaeaaaFld
import Derived.Test.YtbpbeighpaaeaaaGx1
import Derived.Test.YtbpbeighpaaeaaaGx2
import Derived.Test.YtbpbeighpaaeaaaGx5
import Derived.Test.YtbpbeighpaaeaaaGfi
import Derived.Test.YtbpbeighpaaeaaaGx7
import Derived.Test.YtbpbeighpaaeaaaGx9
import Derived.Test.YtbpbeighpaaeaaaGx14
import Derived.Test.YtbpbeighpaaeaaaGsmd
import Derived.Test.YtbpbeighpaaeaaaFly
import Derived.Test.YtbpbeighpaaeaaaFr
namespace Go.Proofs.Ytbpbeighpaaeaaa.G
open Go.RowKit Go.Proofs.YtbpbeighpaaeaaaW.PrintWords Go.Proofs.YtbpbeighpaaeaaaW.PrintLast Go.Proofs.YtbpbeighpaaeaaaW.PrintMore
attribute [local go_sem] max2_int min2_int max_two min_two max_three min_three max_four min_four   -- for this text's walks alone
attribute [local go_sem high] field23_0 field23_1 field23_2 build37 index37_0 index37_1
set_option linter.unusedVariables false
set_option linter.unusedSimpArgs false

open coupletlaw04_FracSums
abbrev I : Bool := true
abbrev O : Bool := false
set_option maxHeartbeats 16000000 in
set_option maxRecDepth 100000 in
theorem coupletlaw04_FracSums.calls (k : Nat) (a0_0 : Int) (a0_1 : Int) (a0_2 : Bool) (a1_0 : Int) (a1_1 : Int) (a1_2 : Bool) (r : Bool) (w : World) (hr : r = true) (hx : ∀ x0 x1 x2, frac_Frac_Add.f k a0_0 a0_1 a0_2 a1_0 a1_1 a1_2 = some (x0, x1, x2) → (x2 = true ∨ (x2 = false ∧ Fr.fineP x0 x1 x2 = true ∧ coupletref01_Right.f (wrap64 (wrap64 (a0_0 * a1_1) + wrap64 (a1_0 * a0_1))) = some true ∧ coupletref04_Same.f 3000 (wrap64 (wrap64 (a0_0 * a1_1) + wrap64 (a1_0 * a0_1))) (wrap64 (a0_1 * a1_1)) x0 x1 = some true))) (hy : ∀ x0 x1 x2, frac_Frac_Sub.f k a0_0 a0_1 a0_2 a1_0 a1_1 a1_2 = some (x0, x1, x2) → (x2 = true ∨ (x2 = false ∧ Fr.fineP x0 x1 x2 = true ∧ coupletref01_Right.f (wrap64 (wrap64 (a0_0 * a1_1) + wrap64 (wrap64 (-a1_0) * a0_1))) = some true ∧ coupletref04_Same.f 3000 (wrap64 (wrap64 (a0_0 * a1_1) + wrap64 (wrap64 (-a1_0) * a0_1))) (wrap64 (a0_1 * a1_1)) x0 x1 = some true))) (h : coupletlaw04_FracSums.f k a0_0 a0_1 a0_2 a1_0 a1_1 a1_2 = some r) :
    Calls Try.prog 7 #[.agg #[.int .i64 a0_0, .int .i64 a0_1, .bool a0_2], .agg #[.int .i64 a1_0, .int .i64 a1_1, .bool a1_2]] w fun e w' => e = .returned (.bool r) ∧ Below w.heap.size w w' := by
 have hu23 := Try.underlying23
 have HB := Aside0.mk (Below.refl w.heap.size w)
 have H : ((frac_Frac_Add.f k a0_0 a0_1 a0_2 a1_0 a1_1 a1_2).bind fun bt264 => ((frac_Frac_Sub.f k a0_0 a0_1 a0_2 a1_0 a1_1 a1_2).bind fun bt267 => ((frac_Frac_Mul.f k a0_0 a0_1 a0_2 a1_0 a1_1 a1_2).bind fun bt270 => (if a0_0 < (-1073741824) then (j0 k true a0_0 a0_1 a0_2 a1_0 a1_1 a1_2 bt264.1 bt264.2.1 bt264.2.2 bt267.1 bt267.2.1 bt267.2.2 bt270.1 bt270.2.1 bt270.2.2) else (if a0_0 > 1073741824 then (j0 k true a0_0 a0_1 a0_2 a1_0 a1_1 a1_2 bt264.1 bt264.2.1 bt264.2.2 bt267.1 bt267.2.1 bt267.2.2 bt270.1 bt270.2.1 bt270.2.2) else (if a0_1 < 1 then (j0 k true a0_0 a0_1 a0_2 a1_0 a1_1 a1_2 bt264.1 bt264.2.1 bt264.2.2 bt267.1 bt267.2.1 bt267.2.2 bt270.1 bt270.2.1 bt270.2.2) else (if a0_1 > 1073741824 then (j0 k true a0_0 a0_1 a0_2 a1_0 a1_1 a1_2 bt264.1 bt264.2.1 bt264.2.2 bt267.1 bt267.2.1 bt267.2.2 bt270.1 bt270.2.1 bt270.2.2) else (if a1_0 < (-1073741824) then (j0 k true a0_0 a0_1 a0_2 a1_0 a1_1 a1_2 bt264.1 bt264.2.1 bt264.2.2 bt267.1 bt267.2.1 bt267.2.2 bt270.1 bt270.2.1 bt270.2.2) else (if a1_0 > 1073741824 then (j0 k true a0_0 a0_1 a0_2 a1_0 a1_1 a1_2 bt264.1 bt264.2.1 bt264.2.2 bt267.1 bt267.2.1 bt267.2.2 bt270.1 bt270.2.1 bt270.2.2) else (if a1_1 < 1 then (j0 k true a0_0 a0_1 a0_2 a1_0 a1_1 a1_2 bt264.1 bt264.2.1 bt264.2.2 bt267.1 bt267.2.1 bt267.2.2 bt270.1 bt270.2.1 bt270.2.2) else (if a1_1 > 1073741824 then (j0 k true a0_0 a0_1 a0_2 a1_0 a1_1 a1_2 bt264.1 bt264.2.1 bt264.2.2 bt267.1 bt267.2.1 bt267.2.2 bt270.1 bt270.2.1 bt270.2.2) else ((coupletlaw04_fine.f k a0_0 a0_1 a0_2).bind fun t276 => (if t276 = true then ((coupletlaw04_fine.f k a1_0 a1_1 a1_2).bind fun t277 => (j0 k (!t277) a0_0 a0_1 a0_2 a1_0 a1_1 a1_2 bt264.1 bt264.2.1 bt264.2.2 bt267.1 bt267.2.1 bt267.2.2 bt270.1 bt270.2.1 bt270.2.2)) else (j0 k true a0_0 a0_1 a0_2 a1_0 a1_1 a1_2 bt264.1 bt264.2.1 bt264.2.2 bt267.1 bt267.2.1 bt267.2.2 bt270.1 bt270.2.1 bt270.2.2)))))))))))))) = some r := h
 clear h
 replace H := Option.bind_eq_some_iff.mp H
 obtain ⟨⟨t264, t265, t266⟩, A30, H⟩ := H
 have Rhx := Aside0.mk (hx _ _ _ A30)
 try dsimp only at H
 have A3 := Aside0.mk A30
 clear A30
 replace H := Option.bind_eq_some_iff.mp H
 obtain ⟨⟨t267, t268, t269⟩, A40, H⟩ := H
 have Rhy := Aside0.mk (hy _ _ _ A40)
 try dsimp only at H
 have A4 := Aside0.mk A40
 clear A40
 replace H := Option.bind_eq_some_iff.mp H
 obtain ⟨⟨t270, t271, t272⟩, A50, H⟩ := H
 try dsimp only at H
 have A5 := Aside0.mk A50
 clear A50
 have HC6 := Aside0.mk H
 clear H
 clear hx hy
 go_enter Try.func7, Try.ntmps7
 try go_wp2_with (first | ((with_reducible refine gate_dst (N := 2) rfl ?_); refine box_event ?hg (N := 2) ?hd (cs := #[.int .i64 a0_0, .int .i64 a0_1, .bool a0_2]) (t := 23) ?hr ?_; (case hd => rfl); (case hg => rfl); (case hr => first | (go_simp; done) | (go_simp; rfl)); intro gb0 hg w7 hbox hb; have n0_ := Aside0.mk (below_step (by repeat (first | (with_reducible first | exact HB.out | apply below_alloc | apply pw_below_drewN | apply below_drew1) | exact HB.out)) hb); have n1_ := Aside0.mk (hbox); have n2_ := Aside0.mk ((by rw [hg]; exact (below_size (by repeat (first | (with_reducible first | exact HB.out | apply below_alloc | apply pw_below_drewN | apply below_drew1) | exact HB.out))) : w.heap.size ≤ gb0)); have n3_ := Aside0.mk ((by rw [hg]; exact (below_size (by repeat (first | (with_reducible first | exact HB.out | apply below_alloc | apply pw_below_drewN | apply below_drew1) | exact HB.out))) : w.heap.size ≤ gb0)); clear HB; have HB := n0_; have BK0 := n1_; have GW0 := n2_; have GE0 := n3_; clear n0_ n1_ n2_ n3_; clear hb hbox hg) | ((with_reducible refine gate_dst (N := 3) rfl ?_); refine box_event ?hg (N := 3) ?hd (cs := #[.int .i64 a1_0, .int .i64 a1_1, .bool a1_2]) (t := 23) ?hr ?_; (case hd => rfl); (case hg => rfl); (case hr => first | (go_simp; done) | (go_simp; rfl)); intro gb1 hg w8 hbox hb; have n0_ := Aside0.mk (blk_below (g := gb0) (o := .cells #[.int .i64 a0_0, .int .i64 a0_1, .bool a0_2] 23 (0, 0)) (by (with_reducible repeat first | apply blk_drewN | apply blk_drew | apply blk_alloc); exact BK0.out) hb); have n1_ := Aside0.mk (below_step (by repeat (first | (with_reducible first | exact HB.out | apply below_alloc | apply pw_below_drewN | apply below_drew1 | refine below_set ?_ GE0.out) | exact HB.out)) hb); have n2_ := Aside0.mk (hbox); have n3_ := Aside0.mk ((by rw [hg]; exact (below_size (by repeat (first | (with_reducible first | exact HB.out | apply below_alloc | apply pw_below_drewN | apply below_drew1 | refine below_set ?_ GE0.out) | exact HB.out))) : w.heap.size ≤ gb1)); have n4_ := Aside0.mk ((by rw [hg]; exact (below_size (by repeat (first | (with_reducible first | exact HB.out | apply below_alloc | apply pw_below_drewN | apply below_drew1 | refine below_set ?_ GE0.out) | exact HB.out))) : w.heap.size ≤ gb1)); have n5_ := Aside0.mk ((by rw [hg]; exact Nat.ne_of_lt (blk_lt (g := gb0) (o := .cells #[.int .i64 a0_0, .int .i64 a0_1, .bool a0_2] 23 (0, 0)) (by (with_reducible repeat first | apply blk_drewN | apply blk_drew | apply blk_alloc); exact BK0.out)) : gb0 ≠ gb1)); have n6_ := Aside0.mk ((by rw [hg]; exact Nat.ne_of_gt (blk_lt (g := gb0) (o := .cells #[.int .i64 a0_0, .int .i64 a0_1, .bool a0_2] 23 (0, 0)) (by (with_reducible repeat first | apply blk_drewN | apply blk_drew | apply blk_alloc); exact BK0.out)) : gb1 ≠ gb0)); clear BK0; clear HB; have BK0 := n0_; have HB := n1_; have BK1 := n2_; have GW1 := n3_; have GE1 := n4_; have NB262_263 := n5_; have NB263_262 := n6_; clear n0_ n1_ n2_ n3_ n4_ n5_ n6_; clear hb hbox hg))
 have n0_ := Aside0.mk (blk_drew BK0.out)
 have n1_ := Aside0.mk (blk_drew BK1.out)
 have n2_ := Aside0.mk (below_drew1 HB.out)
 clear BK0
 clear BK1
 clear HB
 have BK0 := n0_
 have BK1 := n1_
 have HB := n2_
 clear n0_ n1_ n2_
 refine start_ (n := 15) (S := fun w' => True) (ds := []) #[O,O,O,O,O,O,O,O,O,O,O,O,O,O,O] (by kernel_rfl) rfl rfl trivial (fun hHeld => ?_); refine with_tabW tab1 bits1 (fun HT_ HW_ => ?_)
 generalize w8.drew = w9 at BK0 BK1 HB hHeld ⊢
 refine inv_at [0, 1, 2, 3, 4, 5, 6, 7, 8, 9, 10, 11, 12, 13, 14] (fun a0_ b a w' => ∃ (gb2 : Nat) (gb3 : Nat) (gb4 : Nat) (m9_ : Value) (m10_ : Value) (m11_ : Value), a = putSel a0_ b [(0, 12, .agg #[.int .i64 a0_0, .int .i64 a0_1, .bool a0_2]), (1, 13, .agg #[.int .i64 a1_0, .int .i64 a1_1, .bool a1_2]), (2, 14, .agg #[.int .i64 t264, .int .i64 t265, .bool t266]), (3, 15, .agg #[.int .i64 a0_0, .int .i64 a0_1, .bool a0_2]), (4, 16, .agg #[.int .i64 a1_0, .int .i64 a1_1, .bool a1_2]), (5, 17, .agg #[.int .i64 t267, .int .i64 t268, .bool t269]), (6, 18, .agg #[.int .i64 a0_0, .int .i64 a0_1, .bool a0_2]), (7, 19, .agg #[.int .i64 a1_0, .int .i64 a1_1, .bool a1_2]), (8, 20, .agg #[.int .i64 t270, .int .i64 t271, .bool t272]), (9, 5, m9_), (10, 6, m10_), (11, 7, m11_)] ∧ (w'.heap[gb0]? = some (.cells #[.int .i64 a0_0, .int .i64 a0_1, .bool a0_2] 23 (0, 0))) ∧ (w'.heap[gb1]? = some (.cells #[.int .i64 a1_0, .int .i64 a1_1, .bool a1_2] 23 (0, 0))) ∧ (Below w.heap.size w w') ∧ (b 9 = true → b 10 = true → gb3 ≠ gb2) ∧ (b 9 = true → b 10 = true → gb2 ≠ gb3) ∧ (b 9 = true → b 11 = true → gb4 ≠ gb2) ∧ (b 9 = true → b 11 = true → gb2 ≠ gb4) ∧ (b 10 = true → b 11 = true → gb4 ≠ gb3) ∧ (b 10 = true → b 11 = true → gb3 ≠ gb4) ∧ (b 9 = true → b 12 = false → w'.heap[gb2]? = some (.cells #[.int .i64 0, .int .i64 0, .bool false] 23 (0, 0))) ∧ (b 9 = true → w.heap.size ≤ gb2) ∧ (b 9 = true → w.heap.size ≤ gb2) ∧ (b 9 = true → gb0 ≠ gb2) ∧ (b 9 = true → gb2 ≠ gb0) ∧ (b 9 = true → gb1 ≠ gb2) ∧ (b 9 = true → gb2 ≠ gb1) ∧ (b 10 = true → b 13 = false → w'.heap[gb3]? = some (.cells #[.int .i64 0, .int .i64 0, .bool false] 23 (0, 0))) ∧ (b 10 = true → w.heap.size ≤ gb3) ∧ (b 10 = true → w.heap.size ≤ gb3) ∧ (b 10 = true → gb0 ≠ gb3) ∧ (b 10 = true → gb3 ≠ gb0) ∧ (b 10 = true → gb1 ≠ gb3) ∧ (b 10 = true → gb3 ≠ gb1) ∧ (b 11 = true → b 14 = false → w'.heap[gb4]? = some (.cells #[.int .i64 0, .int .i64 0, .bool false] 23 (0, 0))) ∧ (b 11 = true → w.heap.size ≤ gb4) ∧ (b 11 = true → w.heap.size ≤ gb4) ∧ (b 11 = true → gb0 ≠ gb4) ∧ (b 11 = true → gb4 ≠ gb0) ∧ (b 11 = true → gb1 ≠ gb4) ∧ (b 11 = true → gb4 ≠ gb1) ∧ (b 12 = true → w'.heap[gb2]? = some (.cells #[.int .i64 t264, .int .i64 t265, .bool t266] 23 (0, 0))) ∧ (b 13 = true → w'.heap[gb3]? = some (.cells #[.int .i64 t267, .int .i64 t268, .bool t269] 23 (0, 0))) ∧ (b 14 = true → w'.heap[gb4]? = some (.cells #[.int .i64 t270, .int .i64 t271, .bool t272] 23 (0, 0))) ∧ (b 9 = true → (m9_ : Value) = .pointer (some ⟨gb2, 0, none⟩)) ∧ (b 10 = true → (m10_ : Value) = .pointer (some ⟨gb3, 0, none⟩)) ∧ (b 11 = true → (m11_ : Value) = .pointer (some ⟨gb4, 0, none⟩))) HT_.out HW_.out (by kernel_rfl) (by kernel_rfl) ?_ ?_ ?_
 ·
  exact ⟨0, 0, 0, .bool false, .bool false, .bool false, by simp only [putSel, Bool.false_eq_true, if_false], BK0.out, BK1.out, HB.out, fun h_ => absurd h_ (by decide), fun h_ => absurd h_ (by decide), fun h_ => absurd h_ (by decide), fun h_ => absurd h_ (by decide), fun h_ => absurd h_ (by decide), fun h_ => absurd h_ (by decide), fun h_ => absurd h_ (by decide), fun h_ => absurd h_ (by decide), fun h_ => absurd h_ (by decide), fun h_ => absurd h_ (by decide), fun h_ => absurd h_ (by decide), fun h_ => absurd h_ (by decide), fun h_ => absurd h_ (by decide), fun h_ => absurd h_ (by decide), fun h_ => absurd h_ (by decide), fun h_ => absurd h_ (by decide), fun h_ => absurd h_ (by decide), fun h_ => absurd h_ (by decide), fun h_ => absurd h_ (by decide), fun h_ => absurd h_ (by decide), fun h_ => absurd h_ (by decide), fun h_ => absurd h_ (by decide), fun h_ => absurd h_ (by decide), fun h_ => absurd h_ (by decide), fun h_ => absurd h_ (by decide), fun h_ => absurd h_ (by decide), fun h_ => absurd h_ (by decide), fun h_ => absurd h_ (by decide), fun h_ => absurd h_ (by decide), fun h_ => absurd h_ (by decide), fun h_ => absurd h_ (by decide), fun h_ => absurd h_ (by decide), fun h_ => absurd h_ (by decide)⟩
 ·
  skip
  clear BK0 BK1 HB
  refine steps_cons ?_ ?_
  ·
   rintro b a w' ⟨gb2, gb3, gb4, m9_, m10_, m11_, ha, Q_BK0, Q_BK1, Q_HB, Q_NB274_273, Q_NB273_274, Q_NB275_273, Q_NB273_275, Q_NB275_274, Q_NB274_275, Q_BK2, Q_GW2, Q_GE2, Q_NB262_273, Q_NB273_262, Q_NB263_273, Q_NB273_263, Q_BK3, Q_GW3, Q_GE3, Q_NB262_274, Q_NB274_262, Q_NB263_274, Q_NB274_263, Q_BK4, Q_GW4, Q_GE4, Q_NB262_275, Q_NB275_262, Q_NB263_275, Q_NB275_263, Q_BK2_e12, Q_BK3_e13, Q_BK4_e14, Q_X9_, Q_X10_, Q_X11_⟩ hb_ hon hoff
   refine ⟨_, rfl, fun K hK => ?_⟩
   have e2 : a.tmps[2]? = some (.pointer (some ⟨gb0, 0, none⟩)) := by rw [ha]; exact (putSel_off rfl).trans rfl
   replace ha := Aside0.mk ha
   have BK0 := Aside0.mk Q_BK0
   have BK1 := Aside0.mk Q_BK1
   have HB := Aside0.mk Q_HB
   have hc0_ : w'.cell? ⟨gb0, 0, none⟩ = some (.int .i64 a0_0) := (blk_cell BK0.out 0).trans rfl
   have hc1_ : w'.cell? ⟨gb0, 1, none⟩ = some (.int .i64 a0_1) := (blk_cell BK0.out 1).trans rfl
   have hc2_ : w'.cell? ⟨gb0, 2, none⟩ = some (.bool a0_2) := (blk_cell BK0.out 2).trans rfl
   refine value_ (w1 := w') (v := .agg #[.int .i64 a0_0, .int .i64 a0_1, .bool a0_2]) (by rfl) rfl ?_ ?_
   ·
    go_simp
    (try simp only [i64_w])
    try rfl
   refine hK.out _ _ ⟨gb2, gb3, gb4, m9_, m10_, m11_, (by rw [ha.out]; exact putSel_upk 0 hb_ rfl rfl rfl), Q_BK0, Q_BK1, Q_HB, Q_NB274_273, Q_NB273_274, Q_NB275_273, Q_NB273_275, Q_NB275_274, Q_NB274_275, Q_BK2, Q_GW2, Q_GE2, Q_NB262_273, Q_NB273_262, Q_NB263_273, Q_NB273_263, Q_BK3, Q_GW3, Q_GE3, Q_NB262_274, Q_NB274_262, Q_NB263_274, Q_NB274_263, Q_BK4, Q_GW4, Q_GE4, Q_NB262_275, Q_NB275_262, Q_NB263_275, Q_NB275_263, fun h0_ => absurd ((hoff 12 (by kernel_rfl)).symm.trans h0_) (by decide), fun h0_ => absurd ((hoff 13 (by kernel_rfl)).symm.trans h0_) (by decide), fun h0_ => absurd ((hoff 14 (by kernel_rfl)).symm.trans h0_) (by decide), Q_X9_, Q_X10_, Q_X11_⟩
  refine steps_cons ?_ ?_
  ·
   rintro b a w' ⟨gb2, gb3, gb4, m9_, m10_, m11_, ha, Q_BK0, Q_BK1, Q_HB, Q_NB274_273, Q_NB273_274, Q_NB275_273, Q_NB273_275, Q_NB275_274, Q_NB274_275, Q_BK2, Q_GW2, Q_GE2, Q_NB262_273, Q_NB273_262, Q_NB263_273, Q_NB273_263, Q_BK3, Q_GW3, Q_GE3, Q_NB262_274, Q_NB274_262, Q_NB263_274, Q_NB274_263, Q_BK4, Q_GW4, Q_GE4, Q_NB262_275, Q_NB275_262, Q_NB263_275, Q_NB275_263, Q_BK2_e12, Q_BK3_e13, Q_BK4_e14, Q_X9_, Q_X10_, Q_X11_⟩ hb_ hon hoff
   refine ⟨_, rfl, fun K hK => ?_⟩
   have e3 : a.tmps[3]? = some (.pointer (some ⟨gb1, 0, none⟩)) := by rw [ha]; exact (putSel_off rfl).trans rfl
   replace ha := Aside0.mk ha
   have BK0 := Aside0.mk Q_BK0
   have BK1 := Aside0.mk Q_BK1
   have HB := Aside0.mk Q_HB
   have hc0_ : w'.cell? ⟨gb1, 0, none⟩ = some (.int .i64 a1_0) := (blk_cell BK1.out 0).trans rfl
   have hc1_ : w'.cell? ⟨gb1, 1, none⟩ = some (.int .i64 a1_1) := (blk_cell BK1.out 1).trans rfl
   have hc2_ : w'.cell? ⟨gb1, 2, none⟩ = some (.bool a1_2) := (blk_cell BK1.out 2).trans rfl
   refine value_ (w1 := w') (v := .agg #[.int .i64 a1_0, .int .i64 a1_1, .bool a1_2]) (by rfl) rfl ?_ ?_
   ·
    go_simp
    (try simp only [i64_w])
    try rfl
   refine hK.out _ _ ⟨gb2, gb3, gb4, m9_, m10_, m11_, (by rw [ha.out]; exact putSel_upk 1 hb_ rfl rfl rfl), Q_BK0, Q_BK1, Q_HB, Q_NB274_273, Q_NB273_274, Q_NB275_273, Q_NB273_275, Q_NB275_274, Q_NB274_275, Q_BK2, Q_GW2, Q_GE2, Q_NB262_273, Q_NB273_262, Q_NB263_273, Q_NB273_263, Q_BK3, Q_GW3, Q_GE3, Q_NB262_274, Q_NB274_262, Q_NB263_274, Q_NB274_263, Q_BK4, Q_GW4, Q_GE4, Q_NB262_275, Q_NB275_262, Q_NB263_275, Q_NB275_263, fun h0_ => absurd ((hoff 12 (by kernel_rfl)).symm.trans h0_) (by decide), fun h0_ => absurd ((hoff 13 (by kernel_rfl)).symm.trans h0_) (by decide), fun h0_ => absurd ((hoff 14 (by kernel_rfl)).symm.trans h0_) (by decide), Q_X9_, Q_X10_, Q_X11_⟩
  refine steps_cons ?_ ?_
  ·
   rintro b a w' ⟨gb2, gb3, gb4, m9_, m10_, m11_, ha, Q_BK0, Q_BK1, Q_HB, Q_NB274_273, Q_NB273_274, Q_NB275_273, Q_NB273_275, Q_NB275_274, Q_NB274_275, Q_BK2, Q_GW2, Q_GE2, Q_NB262_273, Q_NB273_262, Q_NB263_273, Q_NB273_263, Q_BK3, Q_GW3, Q_GE3, Q_NB262_274, Q_NB274_262, Q_NB263_274, Q_NB274_263, Q_BK4, Q_GW4, Q_GE4, Q_NB262_275, Q_NB275_262, Q_NB263_275, Q_NB275_263, Q_BK2_e12, Q_BK3_e13, Q_BK4_e14, Q_X9_, Q_X10_, Q_X11_⟩ hb_ hon hoff
   refine ⟨_, rfl, fun K hK => ?_⟩
   have e12 : a.tmps[12]? = some (.agg #[.int .i64 a0_0, .int .i64 a0_1, .bool a0_2]) := by rw [ha]; exact putSel_on (e := (0, 12, .agg #[.int .i64 a0_0, .int .i64 a0_1, .bool a0_2])) 0 rfl rfl (hon 0 (by kernel_rfl)) rfl
   have e13 : a.tmps[13]? = some (.agg #[.int .i64 a1_0, .int .i64 a1_1, .bool a1_2]) := by rw [ha]; exact putSel_on (e := (1, 13, .agg #[.int .i64 a1_0, .int .i64 a1_1, .bool a1_2])) 1 rfl rfl (hon 1 (by kernel_rfl)) rfl
   replace ha := Aside0.mk ha
   have BK0 := Aside0.mk Q_BK0
   have BK1 := Aside0.mk Q_BK1
   have HB := Aside0.mk Q_HB
   refine goes_ Try.func24 (by kernel_rfl) rfl #[.agg #[.int .i64 a0_0, .int .i64 a0_1, .bool a0_2], .agg #[.int .i64 a1_0, .int .i64 a1_1, .bool a1_2]] (by rfl) rfl rfl (by first | (simp only [List.map_toArray, List.map_cons, List.map_nil, Act.eval, Array.getD_eq_getD_getElem?, Option.getD_some, e12, e13]; done) | (simp only [List.map_toArray, List.map_cons, List.map_nil, Act.eval, Array.getD_eq_getD_getElem?, Option.getD_some, e12, e13]; rfl)) ?_
   with_reducible refine (frac_Frac_Add.calls k a0_0 a0_1 a0_2 a1_0 a1_1 a1_2 t264 t265 t266 _ A3.out).mono ?_
   rintro e w10 ⟨rfl, hb⟩
   refine ⟨_, rfl, ?_⟩
   have n0_ := Aside0.mk (blk_below (g := gb0) (o := .cells #[.int .i64 a0_0, .int .i64 a0_1, .bool a0_2] 23 (0, 0)) (by (with_reducible repeat first | apply blk_drewN | apply blk_drew | apply blk_alloc); exact BK0.out) hb)
   have n1_ := Aside0.mk (blk_below (g := gb1) (o := .cells #[.int .i64 a1_0, .int .i64 a1_1, .bool a1_2] 23 (0, 0)) (by (with_reducible repeat first | apply blk_drewN | apply blk_drew | apply blk_alloc); exact BK1.out) hb)
   have n2_ := Aside0.mk (below_step (by repeat (first | (with_reducible first | exact HB.out | apply below_alloc | apply pw_below_drewN | apply below_drew1 | refine below_set ?_ GE0.out | refine below_set ?_ GE1.out) | exact HB.out)) hb)
   have z_BK2 := fun (h0_ : b 9 = true) (h1_ : b 12 = false) => (show w10.heap[gb2]? = some (.cells #[.int .i64 0, .int .i64 0, .bool false] 23 (0, 0)) from by first | exact (blk_below (g := gb2) (o := .cells #[.int .i64 0, .int .i64 0, .bool false] 23 (0, 0)) (by (with_reducible repeat first | apply blk_drewN | apply blk_drew | apply blk_alloc); exact (Q_BK2 h0_ h1_)) hb))
   have z_BK3 := fun (h0_ : b 10 = true) (h1_ : b 13 = false) => (show w10.heap[gb3]? = some (.cells #[.int .i64 0, .int .i64 0, .bool false] 23 (0, 0)) from by first | exact (blk_below (g := gb3) (o := .cells #[.int .i64 0, .int .i64 0, .bool false] 23 (0, 0)) (by (with_reducible repeat first | apply blk_drewN | apply blk_drew | apply blk_alloc); exact (Q_BK3 h0_ h1_)) hb))
   have z_BK4 := fun (h0_ : b 11 = true) (h1_ : b 14 = false) => (show w10.heap[gb4]? = some (.cells #[.int .i64 0, .int .i64 0, .bool false] 23 (0, 0)) from by first | exact (blk_below (g := gb4) (o := .cells #[.int .i64 0, .int .i64 0, .bool false] 23 (0, 0)) (by (with_reducible repeat first | apply blk_drewN | apply blk_drew | apply blk_alloc); exact (Q_BK4 h0_ h1_)) hb))
   clear BK0
   clear BK1
   clear HB
   have BK0 := n0_
   have BK1 := n1_
   have HB := n2_
   clear n0_ n1_ n2_
   (try clear hb)
   (try clear hb2)
   (try clear hk)
   (try clear hi)
   refine hK.out _ _ ⟨gb2, gb3, gb4, m9_, m10_, m11_, (by rw [ha.out]; exact putSel_upk 2 hb_ rfl rfl rfl), (by (with_reducible repeat first | apply blk_drewN | apply blk_drew | apply blk_alloc); exact BK0.out), (by (with_reducible repeat first | apply blk_drewN | apply blk_drew | apply blk_alloc); exact BK1.out), (by repeat (first | (with_reducible first | exact HB.out | apply below_alloc | apply pw_below_drewN | apply below_drew1 | refine below_set ?_ GE0.out | refine below_set ?_ GE1.out) | exact HB.out)), Q_NB274_273, Q_NB273_274, Q_NB275_273, Q_NB273_275, Q_NB275_274, Q_NB274_275, z_BK2, Q_GW2, Q_GE2, Q_NB262_273, Q_NB273_262, Q_NB263_273, Q_NB273_263, z_BK3, Q_GW3, Q_GE3, Q_NB262_274, Q_NB274_262, Q_NB263_274, Q_NB274_263, z_BK4, Q_GW4, Q_GE4, Q_NB262_275, Q_NB275_262, Q_NB263_275, Q_NB275_263, fun h0_ => absurd ((hoff 12 (by kernel_rfl)).symm.trans h0_) (by decide), fun h0_ => absurd ((hoff 13 (by kernel_rfl)).symm.trans h0_) (by decide), fun h0_ => absurd ((hoff 14 (by kernel_rfl)).symm.trans h0_) (by decide), Q_X9_, Q_X10_, Q_X11_⟩
  refine steps_cons ?_ ?_
  ·
   rintro b a w' ⟨gb2, gb3, gb4, m9_, m10_, m11_, ha, Q_BK0, Q_BK1, Q_HB, Q_NB274_273, Q_NB273_274, Q_NB275_273, Q_NB273_275, Q_NB275_274, Q_NB274_275, Q_BK2, Q_GW2, Q_GE2, Q_NB262_273, Q_NB273_262, Q_NB263_273, Q_NB273_263, Q_BK3, Q_GW3, Q_GE3, Q_NB262_274, Q_NB274_262, Q_NB263_274, Q_NB274_263, Q_BK4, Q_GW4, Q_GE4, Q_NB262_275, Q_NB275_262, Q_NB263_275, Q_NB275_263, Q_BK2_e12, Q_BK3_e13, Q_BK4_e14, Q_X9_, Q_X10_, Q_X11_⟩ hb_ hon hoff
   refine ⟨_, rfl, fun K hK => ?_⟩
   have e2 : a.tmps[2]? = some (.pointer (some ⟨gb0, 0, none⟩)) := by rw [ha]; exact (putSel_off rfl).trans rfl
   replace ha := Aside0.mk ha
   have BK0 := Aside0.mk Q_BK0
   have BK1 := Aside0.mk Q_BK1
   have HB := Aside0.mk Q_HB
   have hc0_ : w'.cell? ⟨gb0, 0, none⟩ = some (.int .i64 a0_0) := (blk_cell BK0.out 0).trans rfl
   have hc1_ : w'.cell? ⟨gb0, 1, none⟩ = some (.int .i64 a0_1) := (blk_cell BK0.out 1).trans rfl
   have hc2_ : w'.cell? ⟨gb0, 2, none⟩ = some (.bool a0_2) := (blk_cell BK0.out 2).trans rfl
   refine value_ (w1 := w') (v := .agg #[.int .i64 a0_0, .int .i64 a0_1, .bool a0_2]) (by rfl) rfl ?_ ?_
   ·
    go_simp
    (try simp only [i64_w])
    try rfl
   refine hK.out _ _ ⟨gb2, gb3, gb4, m9_, m10_, m11_, (by rw [ha.out]; exact putSel_upk 3 hb_ rfl rfl rfl), Q_BK0, Q_BK1, Q_HB, Q_NB274_273, Q_NB273_274, Q_NB275_273, Q_NB273_275, Q_NB275_274, Q_NB274_275, Q_BK2, Q_GW2, Q_GE2, Q_NB262_273, Q_NB273_262, Q_NB263_273, Q_NB273_263, Q_BK3, Q_GW3, Q_GE3, Q_NB262_274, Q_NB274_262, Q_NB263_274, Q_NB274_263, Q_BK4, Q_GW4, Q_GE4, Q_NB262_275, Q_NB275_262, Q_NB263_275, Q_NB275_263, fun h0_ => absurd ((hoff 12 (by kernel_rfl)).symm.trans h0_) (by decide), fun h0_ => absurd ((hoff 13 (by kernel_rfl)).symm.trans h0_) (by decide), fun h0_ => absurd ((hoff 14 (by kernel_rfl)).symm.trans h0_) (by decide), Q_X9_, Q_X10_, Q_X11_⟩
  refine steps_cons ?_ ?_
  ·
   rintro b a w' ⟨gb2, gb3, gb4, m9_, m10_, m11_, ha, Q_BK0, Q_BK1, Q_HB, Q_NB274_273, Q_NB273_274, Q_NB275_273, Q_NB273_275, Q_NB275_274, Q_NB274_275, Q_BK2, Q_GW2, Q_GE2, Q_NB262_273, Q_NB273_262, Q_NB263_273, Q_NB273_263, Q_BK3, Q_GW3, Q_GE3, Q_NB262_274, Q_NB274_262, Q_NB263_274, Q_NB274_263, Q_BK4, Q_GW4, Q_GE4, Q_NB262_275, Q_NB275_262, Q_NB263_275, Q_NB275_263, Q_BK2_e12, Q_BK3_e13, Q_BK4_e14, Q_X9_, Q_X10_, Q_X11_⟩ hb_ hon hoff
   refine ⟨_, rfl, fun K hK => ?_⟩
   have e3 : a.tmps[3]? = some (.pointer (some ⟨gb1, 0, none⟩)) := by rw [ha]; exact (putSel_off rfl).trans rfl
   replace ha := Aside0.mk ha
   have BK0 := Aside0.mk Q_BK0
   have BK1 := Aside0.mk Q_BK1
   have HB := Aside0.mk Q_HB
   have hc0_ : w'.cell? ⟨gb1, 0, none⟩ = some (.int .i64 a1_0) := (blk_cell BK1.out 0).trans rfl
   have hc1_ : w'.cell? ⟨gb1, 1, none⟩ = some (.int .i64 a1_1) := (blk_cell BK1.out 1).trans rfl
   have hc2_ : w'.cell? ⟨gb1, 2, none⟩ = some (.bool a1_2) := (blk_cell BK1.out 2).trans rfl
   refine value_ (w1 := w') (v := .agg #[.int .i64 a1_0, .int .i64 a1_1, .bool a1_2]) (by rfl) rfl ?_ ?_
   ·
    go_simp
    (try simp only [i64_w])
    try rfl
   refine hK.out _ _ ⟨gb2, gb3, gb4, m9_, m10_, m11_, (by rw [ha.out]; exact putSel_upk 4 hb_ rfl rfl rfl), Q_BK0, Q_BK1, Q_HB, Q_NB274_273, Q_NB273_274, Q_NB275_273, Q_NB273_275, Q_NB275_274, Q_NB274_275, Q_BK2, Q_GW2, Q_GE2, Q_NB262_273, Q_NB273_262, Q_NB263_273, Q_NB273_263, Q_BK3, Q_GW3, Q_GE3, Q_NB262_274, Q_NB274_262, Q_NB263_274, Q_NB274_263, Q_BK4, Q_GW4, Q_GE4, Q_NB262_275, Q_NB275_262, Q_NB263_275, Q_NB275_263, fun h0_ => absurd ((hoff 12 (by kernel_rfl)).symm.trans h0_) (by decide), fun h0_ => absurd ((hoff 13 (by kernel_rfl)).symm.trans h0_) (by decide), fun h0_ => absurd ((hoff 14 (by kernel_rfl)).symm.trans h0_) (by decide), Q_X9_, Q_X10_, Q_X11_⟩
  refine steps_cons ?_ ?_
  ·
   rintro b a w' ⟨gb2, gb3, gb4, m9_, m10_, m11_, ha, Q_BK0, Q_BK1, Q_HB, Q_NB274_273, Q_NB273_274, Q_NB275_273, Q_NB273_275, Q_NB275_274, Q_NB274_275, Q_BK2, Q_GW2, Q_GE2, Q_NB262_273, Q_NB273_262, Q_NB263_273, Q_NB273_263, Q_BK3, Q_GW3, Q_GE3, Q_NB262_274, Q_NB274_262, Q_NB263_274, Q_NB274_263, Q_BK4, Q_GW4, Q_GE4, Q_NB262_275, Q_NB275_262, Q_NB263_275, Q_NB275_263, Q_BK2_e12, Q_BK3_e13, Q_BK4_e14, Q_X9_, Q_X10_, Q_X11_⟩ hb_ hon hoff
   refine ⟨_, rfl, fun K hK => ?_⟩
   have e15 : a.tmps[15]? = some (.agg #[.int .i64 a0_0, .int .i64 a0_1, .bool a0_2]) := by rw [ha]; exact putSel_on (e := (3, 15, .agg #[.int .i64 a0_0, .int .i64 a0_1, .bool a0_2])) 3 rfl rfl (hon 3 (by kernel_rfl)) rfl
   have e16 : a.tmps[16]? = some (.agg #[.int .i64 a1_0, .int .i64 a1_1, .bool a1_2]) := by rw [ha]; exact putSel_on (e := (4, 16, .agg #[.int .i64 a1_0, .int .i64 a1_1, .bool a1_2])) 4 rfl rfl (hon 4 (by kernel_rfl)) rfl
   replace ha := Aside0.mk ha
   have BK0 := Aside0.mk Q_BK0
   have BK1 := Aside0.mk Q_BK1
   have HB := Aside0.mk Q_HB
   refine goes_ Try.func25 (by kernel_rfl) rfl #[.agg #[.int .i64 a0_0, .int .i64 a0_1, .bool a0_2], .agg #[.int .i64 a1_0, .int .i64 a1_1, .bool a1_2]] (by rfl) rfl rfl (by first | (simp only [List.map_toArray, List.map_cons, List.map_nil, Act.eval, Array.getD_eq_getD_getElem?, Option.getD_some, e15, e16]; done) | (simp only [List.map_toArray, List.map_cons, List.map_nil, Act.eval, Array.getD_eq_getD_getElem?, Option.getD_some, e15, e16]; rfl)) ?_
   with_reducible refine (frac_Frac_Sub.calls k a0_0 a0_1 a0_2 a1_0 a1_1 a1_2 t267 t268 t269 _ A4.out).mono ?_
   rintro e w12 ⟨rfl, hb⟩
   refine ⟨_, rfl, ?_⟩
   have n0_ := Aside0.mk (blk_below (g := gb0) (o := .cells #[.int .i64 a0_0, .int .i64 a0_1, .bool a0_2] 23 (0, 0)) (by (with_reducible repeat first | apply blk_drewN | apply blk_drew | apply blk_alloc); exact BK0.out) hb)
   have n1_ := Aside0.mk (blk_below (g := gb1) (o := .cells #[.int .i64 a1_0, .int .i64 a1_1, .bool a1_2] 23 (0, 0)) (by (with_reducible repeat first | apply blk_drewN | apply blk_drew | apply blk_alloc); exact BK1.out) hb)
   have n2_ := Aside0.mk (below_step (by repeat (first | (with_reducible first | exact HB.out | apply below_alloc | apply pw_below_drewN | apply below_drew1 | refine below_set ?_ GE0.out | refine below_set ?_ GE1.out) | exact HB.out)) hb)
   have z_BK2 := fun (h0_ : b 9 = true) (h1_ : b 12 = false) => (show w12.heap[gb2]? = some (.cells #[.int .i64 0, .int .i64 0, .bool false] 23 (0, 0)) from by first | exact (blk_below (g := gb2) (o := .cells #[.int .i64 0, .int .i64 0, .bool false] 23 (0, 0)) (by (with_reducible repeat first | apply blk_drewN | apply blk_drew | apply blk_alloc); exact (Q_BK2 h0_ h1_)) hb))
   have z_BK3 := fun (h0_ : b 10 = true) (h1_ : b 13 = false) => (show w12.heap[gb3]? = some (.cells #[.int .i64 0, .int .i64 0, .bool false] 23 (0, 0)) from by first | exact (blk_below (g := gb3) (o := .cells #[.int .i64 0, .int .i64 0, .bool false] 23 (0, 0)) (by (with_reducible repeat first | apply blk_drewN | apply blk_drew | apply blk_alloc); exact (Q_BK3 h0_ h1_)) hb))
   have z_BK4 := fun (h0_ : b 11 = true) (h1_ : b 14 = false) => (show w12.heap[gb4]? = some (.cells #[.int .i64 0, .int .i64 0, .bool false] 23 (0, 0)) from by first | exact (blk_below (g := gb4) (o := .cells #[.int .i64 0, .int .i64 0, .bool false] 23 (0, 0)) (by (with_reducible repeat first | apply blk_drewN | apply blk_drew | apply blk_alloc); exact (Q_BK4 h0_ h1_)) hb))
   clear BK0
   clear BK1
   clear HB
   have BK0 := n0_
   have BK1 := n1_
   have HB := n2_
   clear n0_ n1_ n2_
   (try clear hb)
   (try clear hb2)
   (try clear hk)
   (try clear hi)
   refine hK.out _ _ ⟨gb2, gb3, gb4, m9_, m10_, m11_, (by rw [ha.out]; exact putSel_upk 5 hb_ rfl rfl rfl), (by (with_reducible repeat first | apply blk_drewN | apply blk_drew | apply blk_alloc); exact BK0.out), (by (with_reducible repeat first | apply blk_drewN | apply blk_drew | apply blk_alloc); exact BK1.out), (by repeat (first | (with_reducible first | exact HB.out | apply below_alloc | apply pw_below_drewN | apply below_drew1 | refine below_set ?_ GE0.out | refine below_set ?_ GE1.out) | exact HB.out)), Q_NB274_273, Q_NB273_274, Q_NB275_273, Q_NB273_275, Q_NB275_274, Q_NB274_275, z_BK2, Q_GW2, Q_GE2, Q_NB262_273, Q_NB273_262, Q_NB263_273, Q_NB273_263, z_BK3, Q_GW3, Q_GE3, Q_NB262_274, Q_NB274_262, Q_NB263_274, Q_NB274_263, z_BK4, Q_GW4, Q_GE4, Q_NB262_275, Q_NB275_262, Q_NB263_275, Q_NB275_263, fun h0_ => absurd ((hoff 12 (by kernel_rfl)).symm.trans h0_) (by decide), fun h0_ => absurd ((hoff 13 (by kernel_rfl)).symm.trans h0_) (by decide), fun h0_ => absurd ((hoff 14 (by kernel_rfl)).symm.trans h0_) (by decide), Q_X9_, Q_X10_, Q_X11_⟩
  refine steps_cons ?_ ?_
  ·
   rintro b a w' ⟨gb2, gb3, gb4, m9_, m10_, m11_, ha, Q_BK0, Q_BK1, Q_HB, Q_NB274_273, Q_NB273_274, Q_NB275_273, Q_NB273_275, Q_NB275_274, Q_NB274_275, Q_BK2, Q_GW2, Q_GE2, Q_NB262_273, Q_NB273_262, Q_NB263_273, Q_NB273_263, Q_BK3, Q_GW3, Q_GE3, Q_NB262_274, Q_NB274_262, Q_NB263_274, Q_NB274_263, Q_BK4, Q_GW4, Q_GE4, Q_NB262_275, Q_NB275_262, Q_NB263_275, Q_NB275_263, Q_BK2_e12, Q_BK3_e13, Q_BK4_e14, Q_X9_, Q_X10_, Q_X11_⟩ hb_ hon hoff
   refine ⟨_, rfl, fun K hK => ?_⟩
   have e2 : a.tmps[2]? = some (.pointer (some ⟨gb0, 0, none⟩)) := by rw [ha]; exact (putSel_off rfl).trans rfl
   replace ha := Aside0.mk ha
   have BK0 := Aside0.mk Q_BK0
   have BK1 := Aside0.mk Q_BK1
   have HB := Aside0.mk Q_HB
   have hc0_ : w'.cell? ⟨gb0, 0, none⟩ = some (.int .i64 a0_0) := (blk_cell BK0.out 0).trans rfl
   have hc1_ : w'.cell? ⟨gb0, 1, none⟩ = some (.int .i64 a0_1) := (blk_cell BK0.out 1).trans rfl
   have hc2_ : w'.cell? ⟨gb0, 2, none⟩ = some (.bool a0_2) := (blk_cell BK0.out 2).trans rfl
   refine value_ (w1 := w') (v := .agg #[.int .i64 a0_0, .int .i64 a0_1, .bool a0_2]) (by rfl) rfl ?_ ?_
   ·
    go_simp
    (try simp only [i64_w])
    try rfl
   refine hK.out _ _ ⟨gb2, gb3, gb4, m9_, m10_, m11_, (by rw [ha.out]; exact putSel_upk 6 hb_ rfl rfl rfl), Q_BK0, Q_BK1, Q_HB, Q_NB274_273, Q_NB273_274, Q_NB275_273, Q_NB273_275, Q_NB275_274, Q_NB274_275, Q_BK2, Q_GW2, Q_GE2, Q_NB262_273, Q_NB273_262, Q_NB263_273, Q_NB273_263, Q_BK3, Q_GW3, Q_GE3, Q_NB262_274, Q_NB274_262, Q_NB263_274, Q_NB274_263, Q_BK4, Q_GW4, Q_GE4, Q_NB262_275, Q_NB275_262, Q_NB263_275, Q_NB275_263, fun h0_ => absurd ((hoff 12 (by kernel_rfl)).symm.trans h0_) (by decide), fun h0_ => absurd ((hoff 13 (by kernel_rfl)).symm.trans h0_) (by decide), fun h0_ => absurd ((hoff 14 (by kernel_rfl)).symm.trans h0_) (by decide), Q_X9_, Q_X10_, Q_X11_⟩
  refine steps_cons ?_ ?_
  ·
   rintro b a w' ⟨gb2, gb3, gb4, m9_, m10_, m11_, ha, Q_BK0, Q_BK1, Q_HB, Q_NB274_273, Q_NB273_274, Q_NB275_273, Q_NB273_275, Q_NB275_274, Q_NB274_275, Q_BK2, Q_GW2, Q_GE2, Q_NB262_273, Q_NB273_262, Q_NB263_273, Q_NB273_263, Q_BK3, Q_GW3, Q_GE3, Q_NB262_274, Q_NB274_262, Q_NB263_274, Q_NB274_263, Q_BK4, Q_GW4, Q_GE4, Q_NB262_275, Q_NB275_262, Q_NB263_275, Q_NB275_263, Q_BK2_e12, Q_BK3_e13, Q_BK4_e14, Q_X9_, Q_X10_, Q_X11_⟩ hb_ hon hoff
   refine ⟨_, rfl, fun K hK => ?_⟩
   have e3 : a.tmps[3]? = some (.pointer (some ⟨gb1, 0, none⟩)) := by rw [ha]; exact (putSel_off rfl).trans rfl
   replace ha := Aside0.mk ha
   have BK0 := Aside0.mk Q_BK0
   have BK1 := Aside0.mk Q_BK1
   have HB := Aside0.mk Q_HB
   have hc0_ : w'.cell? ⟨gb1, 0, none⟩ = some (.int .i64 a1_0) := (blk_cell BK1.out 0).trans rfl
   have hc1_ : w'.cell? ⟨gb1, 1, none⟩ = some (.int .i64 a1_1) := (blk_cell BK1.out 1).trans rfl
   have hc2_ : w'.cell? ⟨gb1, 2, none⟩ = some (.bool a1_2) := (blk_cell BK1.out 2).trans rfl
   refine value_ (w1 := w') (v := .agg #[.int .i64 a1_0, .int .i64 a1_1, .bool a1_2]) (by rfl) rfl ?_ ?_
   ·
    go_simp
    (try simp only [i64_w])
    try rfl
   refine hK.out _ _ ⟨gb2, gb3, gb4, m9_, m10_, m11_, (by rw [ha.out]; exact putSel_upk 7 hb_ rfl rfl rfl), Q_BK0, Q_BK1, Q_HB, Q_NB274_273, Q_NB273_274, Q_NB275_273, Q_NB273_275, Q_NB275_274, Q_NB274_275, Q_BK2, Q_GW2, Q_GE2, Q_NB262_273, Q_NB273_262, Q_NB263_273, Q_NB273_263, Q_BK3, Q_GW3, Q_GE3, Q_NB262_274, Q_NB274_262, Q_NB263_274, Q_NB274_263, Q_BK4, Q_GW4, Q_GE4, Q_NB262_275, Q_NB275_262, Q_NB263_275, Q_NB275_263, fun h0_ => absurd ((hoff 12 (by kernel_rfl)).symm.trans h0_) (by decide), fun h0_ => absurd ((hoff 13 (by kernel_rfl)).symm.trans h0_) (by decide), fun h0_ => absurd ((hoff 14 (by kernel_rfl)).symm.trans h0_) (by decide), Q_X9_, Q_X10_, Q_X11_⟩
  refine steps_cons ?_ ?_
  ·
   rintro b a w' ⟨gb2, gb3, gb4, m9_, m10_, m11_, ha, Q_BK0, Q_BK1, Q_HB, Q_NB274_273, Q_NB273_274, Q_NB275_273, Q_NB273_275, Q_NB275_274, Q_NB274_275, Q_BK2, Q_GW2, Q_GE2, Q_NB262_273, Q_NB273_262, Q_NB263_273, Q_NB273_263, Q_BK3, Q_GW3, Q_GE3, Q_NB262_274, Q_NB274_262, Q_NB263_274, Q_NB274_263, Q_BK4, Q_GW4, Q_GE4, Q_NB262_275, Q_NB275_262, Q_NB263_275, Q_NB275_263, Q_BK2_e12, Q_BK3_e13, Q_BK4_e14, Q_X9_, Q_X10_, Q_X11_⟩ hb_ hon hoff
   refine ⟨_, rfl, fun K hK => ?_⟩
   have e18 : a.tmps[18]? = some (.agg #[.int .i64 a0_0, .int .i64 a0_1, .bool a0_2]) := by rw [ha]; exact putSel_on (e := (6, 18, .agg #[.int .i64 a0_0, .int .i64 a0_1, .bool a0_2])) 6 rfl rfl (hon 6 (by kernel_rfl)) rfl
   have e19 : a.tmps[19]? = some (.agg #[.int .i64 a1_0, .int .i64 a1_1, .bool a1_2]) := by rw [ha]; exact putSel_on (e := (7, 19, .agg #[.int .i64 a1_0, .int .i64 a1_1, .bool a1_2])) 7 rfl rfl (hon 7 (by kernel_rfl)) rfl
   replace ha := Aside0.mk ha
   have BK0 := Aside0.mk Q_BK0
   have BK1 := Aside0.mk Q_BK1
   have HB := Aside0.mk Q_HB
   refine goes_ Try.func23 (by kernel_rfl) rfl #[.agg #[.int .i64 a0_0, .int .i64 a0_1, .bool a0_2], .agg #[.int .i64 a1_0, .int .i64 a1_1, .bool a1_2]] (by rfl) rfl rfl (by first | (simp only [List.map_toArray, List.map_cons, List.map_nil, Act.eval, Array.getD_eq_getD_getElem?, Option.getD_some, e18, e19]; done) | (simp only [List.map_toArray, List.map_cons, List.map_nil, Act.eval, Array.getD_eq_getD_getElem?, Option.getD_some, e18, e19]; rfl)) ?_
   with_reducible refine (frac_Frac_Mul.calls k a0_0 a0_1 a0_2 a1_0 a1_1 a1_2 t270 t271 t272 _ A5.out).mono ?_
   rintro e w13 ⟨rfl, hb⟩
   refine ⟨_, rfl, ?_⟩
   have n0_ := Aside0.mk (blk_below (g := gb0) (o := .cells #[.int .i64 a0_0, .int .i64 a0_1, .bool a0_2] 23 (0, 0)) (by (with_reducible repeat first | apply blk_drewN | apply blk_drew | apply blk_alloc); exact BK0.out) hb)
   have n1_ := Aside0.mk (blk_below (g := gb1) (o := .cells #[.int .i64 a1_0, .int .i64 a1_1, .bool a1_2] 23 (0, 0)) (by (with_reducible repeat first | apply blk_drewN | apply blk_drew | apply blk_alloc); exact BK1.out) hb)
   have n2_ := Aside0.mk (below_step (by repeat (first | (with_reducible first | exact HB.out | apply below_alloc | apply pw_below_drewN | apply below_drew1 | refine below_set ?_ GE0.out | refine below_set ?_ GE1.out) | exact HB.out)) hb)
   have z_BK2 := fun (h0_ : b 9 = true) (h1_ : b 12 = false) => (show w13.heap[gb2]? = some (.cells #[.int .i64 0, .int .i64 0, .bool false] 23 (0, 0)) from by first | exact (blk_below (g := gb2) (o := .cells #[.int .i64 0, .int .i64 0, .bool false] 23 (0, 0)) (by (with_reducible repeat first | apply blk_drewN | apply blk_drew | apply blk_alloc); exact (Q_BK2 h0_ h1_)) hb))
   have z_BK3 := fun (h0_ : b 10 = true) (h1_ : b 13 = false) => (show w13.heap[gb3]? = some (.cells #[.int .i64 0, .int .i64 0, .bool false] 23 (0, 0)) from by first | exact (blk_below (g := gb3) (o := .cells #[.int .i64 0, .int .i64 0, .bool false] 23 (0, 0)) (by (with_reducible repeat first | apply blk_drewN | apply blk_drew | apply blk_alloc); exact (Q_BK3 h0_ h1_)) hb))
   have z_BK4 := fun (h0_ : b 11 = true) (h1_ : b 14 = false) => (show w13.heap[gb4]? = some (.cells #[.int .i64 0, .int .i64 0, .bool false] 23 (0, 0)) from by first | exact (blk_below (g := gb4) (o := .cells #[.int .i64 0, .int .i64 0, .bool false] 23 (0, 0)) (by (with_reducible repeat first | apply blk_drewN | apply blk_drew | apply blk_alloc); exact (Q_BK4 h0_ h1_)) hb))
   clear BK0
   clear BK1
   clear HB
   have BK0 := n0_
   have BK1 := n1_
   have HB := n2_
   clear n0_ n1_ n2_
   (try clear hb)
   (try clear hb2)
   (try clear hk)
   (try clear hi)
   refine hK.out _ _ ⟨gb2, gb3, gb4, m9_, m10_, m11_, (by rw [ha.out]; exact putSel_upk 8 hb_ rfl rfl rfl), (by (with_reducible repeat first | apply blk_drewN | apply blk_drew | apply blk_alloc); exact BK0.out), (by (with_reducible repeat first | apply blk_drewN | apply blk_drew | apply blk_alloc); exact BK1.out), (by repeat (first | (with_reducible first | exact HB.out | apply below_alloc | apply pw_below_drewN | apply below_drew1 | refine below_set ?_ GE0.out | refine below_set ?_ GE1.out) | exact HB.out)), Q_NB274_273, Q_NB273_274, Q_NB275_273, Q_NB273_275, Q_NB275_274, Q_NB274_275, z_BK2, Q_GW2, Q_GE2, Q_NB262_273, Q_NB273_262, Q_NB263_273, Q_NB273_263, z_BK3, Q_GW3, Q_GE3, Q_NB262_274, Q_NB274_262, Q_NB263_274, Q_NB274_263, z_BK4, Q_GW4, Q_GE4, Q_NB262_275, Q_NB275_262, Q_NB263_275, Q_NB275_263, fun h0_ => absurd ((hoff 12 (by kernel_rfl)).symm.trans h0_) (by decide), fun h0_ => absurd ((hoff 13 (by kernel_rfl)).symm.trans h0_) (by decide), fun h0_ => absurd ((hoff 14 (by kernel_rfl)).symm.trans h0_) (by decide), Q_X9_, Q_X10_, Q_X11_⟩
  refine steps_cons ?_ ?_
  ·
   rintro b a w' ⟨gb2, gb3, gb4, m9_, m10_, m11_, ha, Q_BK0, Q_BK1, Q_HB, Q_NB274_273, Q_NB273_274, Q_NB275_273, Q_NB273_275, Q_NB275_274, Q_NB274_275, Q_BK2, Q_GW2, Q_GE2, Q_NB262_273, Q_NB273_262, Q_NB263_273, Q_NB273_263, Q_BK3, Q_GW3, Q_GE3, Q_NB262_274, Q_NB274_262, Q_NB263_274, Q_NB274_263, Q_BK4, Q_GW4, Q_GE4, Q_NB262_275, Q_NB275_262, Q_NB263_275, Q_NB275_263, Q_BK2_e12, Q_BK3_e13, Q_BK4_e14, Q_X9_, Q_X10_, Q_X11_⟩ hb_ hon hoff
   refine ⟨_, rfl, fun K hK => ?_⟩
   replace ha := Aside0.mk ha
   have BK0 := Aside0.mk Q_BK0
   have BK1 := Aside0.mk Q_BK1
   have HB := Aside0.mk Q_HB
   refine box_step ?hg (N := 5) ?hd (cs := #[.int .i64 0, .int .i64 0, .bool false]) (t := 23) ?hr ?_; (case hd => rfl); (case hg => rfl); (case hr => first | (go_simp; done) | (go_simp; rfl))
   intro gb2 hg w10 hbox hb
   have n0_ := Aside0.mk (blk_below (g := gb0) (o := .cells #[.int .i64 a0_0, .int .i64 a0_1, .bool a0_2] 23 (0, 0)) (by (with_reducible repeat first | apply blk_drewN | apply blk_drew | apply blk_alloc); exact BK0.out) hb)
   have n1_ := Aside0.mk (blk_below (g := gb1) (o := .cells #[.int .i64 a1_0, .int .i64 a1_1, .bool a1_2] 23 (0, 0)) (by (with_reducible repeat first | apply blk_drewN | apply blk_drew | apply blk_alloc); exact BK1.out) hb)
   have n2_ := Aside0.mk (below_step (by repeat (first | (with_reducible first | exact HB.out | apply below_alloc | apply pw_below_drewN | apply below_drew1 | refine below_set ?_ GE0.out | refine below_set ?_ GE1.out) | exact HB.out)) hb)
   have n3_ := Aside0.mk (hbox)
   have n4_ := Aside0.mk ((by rw [hg]; exact (below_size (by repeat (first | (with_reducible first | exact HB.out | apply below_alloc | apply pw_below_drewN | apply below_drew1 | refine below_set ?_ GE0.out | refine below_set ?_ GE1.out) | exact HB.out))) : w.heap.size ≤ gb2))
   have n5_ := Aside0.mk ((by rw [hg]; exact (below_size (by repeat (first | (with_reducible first | exact HB.out | apply below_alloc | apply pw_below_drewN | apply below_drew1 | refine below_set ?_ GE0.out | refine below_set ?_ GE1.out) | exact HB.out))) : w.heap.size ≤ gb2))
   have n6_ := Aside0.mk ((by rw [hg]; exact Nat.ne_of_lt (blk_lt (g := gb0) (o := .cells #[.int .i64 a0_0, .int .i64 a0_1, .bool a0_2] 23 (0, 0)) (by (with_reducible repeat first | apply blk_drewN | apply blk_drew | apply blk_alloc); exact BK0.out)) : gb0 ≠ gb2))
   have n7_ := Aside0.mk ((by rw [hg]; exact Nat.ne_of_gt (blk_lt (g := gb0) (o := .cells #[.int .i64 a0_0, .int .i64 a0_1, .bool a0_2] 23 (0, 0)) (by (with_reducible repeat first | apply blk_drewN | apply blk_drew | apply blk_alloc); exact BK0.out)) : gb2 ≠ gb0))
   have n8_ := Aside0.mk ((by rw [hg]; exact Nat.ne_of_lt (blk_lt (g := gb1) (o := .cells #[.int .i64 a1_0, .int .i64 a1_1, .bool a1_2] 23 (0, 0)) (by (with_reducible repeat first | apply blk_drewN | apply blk_drew | apply blk_alloc); exact BK1.out)) : gb1 ≠ gb2))
   have n9_ := Aside0.mk ((by rw [hg]; exact Nat.ne_of_gt (blk_lt (g := gb1) (o := .cells #[.int .i64 a1_0, .int .i64 a1_1, .bool a1_2] 23 (0, 0)) (by (with_reducible repeat first | apply blk_drewN | apply blk_drew | apply blk_alloc); exact BK1.out)) : gb2 ≠ gb1))
   have z_NB274_273 := fun (h0_ : up b 9 9 = true) (h1_ : up b 9 10 = true) => (show gb3 ≠ gb2 from (by rw [hg]; exact Nat.ne_of_lt (by cases hs_ : b 13 with | false => exact blk_lt (Q_BK3 h1_ hs_) | true => exact blk_lt (Q_BK3_e13 hs_))))
   have z_NB273_274 := fun (h0_ : up b 9 9 = true) (h1_ : up b 9 10 = true) => (show gb2 ≠ gb3 from (by rw [hg]; exact Nat.ne_of_gt (by cases hs_ : b 13 with | false => exact blk_lt (Q_BK3 h1_ hs_) | true => exact blk_lt (Q_BK3_e13 hs_))))
   have z_NB275_273 := fun (h0_ : up b 9 9 = true) (h1_ : up b 9 11 = true) => (show gb4 ≠ gb2 from (by rw [hg]; exact Nat.ne_of_lt (by cases hs_ : b 14 with | false => exact blk_lt (Q_BK4 h1_ hs_) | true => exact blk_lt (Q_BK4_e14 hs_))))
   have z_NB273_275 := fun (h0_ : up b 9 9 = true) (h1_ : up b 9 11 = true) => (show gb2 ≠ gb4 from (by rw [hg]; exact Nat.ne_of_gt (by cases hs_ : b 14 with | false => exact blk_lt (Q_BK4 h1_ hs_) | true => exact blk_lt (Q_BK4_e14 hs_))))
   have z_BK3 := fun (h0_ : b 10 = true) (h1_ : b 13 = false) => (show w10.heap[gb3]? = some (.cells #[.int .i64 0, .int .i64 0, .bool false] 23 (0, 0)) from by first | exact (blk_below (g := gb3) (o := .cells #[.int .i64 0, .int .i64 0, .bool false] 23 (0, 0)) (by (with_reducible repeat first | apply blk_drewN | apply blk_drew | apply blk_alloc); exact (Q_BK3 h0_ h1_)) hb))
   have z_BK4 := fun (h0_ : b 11 = true) (h1_ : b 14 = false) => (show w10.heap[gb4]? = some (.cells #[.int .i64 0, .int .i64 0, .bool false] 23 (0, 0)) from by first | exact (blk_below (g := gb4) (o := .cells #[.int .i64 0, .int .i64 0, .bool false] 23 (0, 0)) (by (with_reducible repeat first | apply blk_drewN | apply blk_drew | apply blk_alloc); exact (Q_BK4 h0_ h1_)) hb))
   clear BK0
   clear BK1
   clear HB
   have BK0 := n0_
   have BK1 := n1_
   have HB := n2_
   have BK2 := n3_
   have GW2 := n4_
   have GE2 := n5_
   have NB262_273 := n6_
   have NB273_262 := n7_
   have NB263_273 := n8_
   have NB273_263 := n9_
   clear n0_ n1_ n2_ n3_ n4_ n5_ n6_ n7_ n8_ n9_
   clear hb hbox hg
   refine hK.out _ _ ⟨gb2, gb3, gb4, (.pointer (some ⟨gb2, 0, none⟩)), m10_, m11_, (by rw [ha.out]; exact putSel_upk 9 hb_ rfl rfl rfl), (by (with_reducible repeat first | apply blk_drewN | apply blk_drew | apply blk_alloc); exact BK0.out), (by (with_reducible repeat first | apply blk_drewN | apply blk_drew | apply blk_alloc); exact BK1.out), (by repeat (first | (with_reducible first | exact HB.out | apply below_alloc | apply pw_below_drewN | apply below_drew1 | refine below_set ?_ GE0.out | refine below_set ?_ GE1.out | refine below_set ?_ GE2.out) | exact HB.out)), @z_NB274_273, @z_NB273_274, @z_NB275_273, @z_NB273_275, Q_NB275_274, Q_NB274_275, fun _ _ => (by (with_reducible repeat first | apply blk_drewN | apply blk_drew | apply blk_alloc); exact BK2.out), fun _ => GW2.out, fun _ => GE2.out, fun _ => NB262_273.out, fun _ => NB273_262.out, fun _ => NB263_273.out, fun _ => NB273_263.out, z_BK3, Q_GW3, Q_GE3, Q_NB262_274, Q_NB274_262, Q_NB263_274, Q_NB274_263, z_BK4, Q_GW4, Q_GE4, Q_NB262_275, Q_NB275_262, Q_NB263_275, Q_NB275_263, fun h0_ => absurd ((hoff 12 (by kernel_rfl)).symm.trans h0_) (by decide), fun h0_ => absurd ((hoff 13 (by kernel_rfl)).symm.trans h0_) (by decide), fun h0_ => absurd ((hoff 14 (by kernel_rfl)).symm.trans h0_) (by decide), fun _ => rfl, Q_X10_, Q_X11_⟩
  refine steps_cons ?_ ?_
  ·
   rintro b a w' ⟨gb2, gb3, gb4, m9_, m10_, m11_, ha, Q_BK0, Q_BK1, Q_HB, Q_NB274_273, Q_NB273_274, Q_NB275_273, Q_NB273_275, Q_NB275_274, Q_NB274_275, Q_BK2, Q_GW2, Q_GE2, Q_NB262_273, Q_NB273_262, Q_NB263_273, Q_NB273_263, Q_BK3, Q_GW3, Q_GE3, Q_NB262_274, Q_NB274_262, Q_NB263_274, Q_NB274_263, Q_BK4, Q_GW4, Q_GE4, Q_NB262_275, Q_NB275_262, Q_NB263_275, Q_NB275_263, Q_BK2_e12, Q_BK3_e13, Q_BK4_e14, Q_X9_, Q_X10_, Q_X11_⟩ hb_ hon hoff
   refine ⟨_, rfl, fun K hK => ?_⟩
   replace ha := Aside0.mk ha
   have BK0 := Aside0.mk Q_BK0
   have BK1 := Aside0.mk Q_BK1
   have HB := Aside0.mk Q_HB
   refine box_step ?hg (N := 6) ?hd (cs := #[.int .i64 0, .int .i64 0, .bool false]) (t := 23) ?hr ?_; (case hd => rfl); (case hg => rfl); (case hr => first | (go_simp; done) | (go_simp; rfl))
   intro gb3 hg w10 hbox hb
   have n0_ := Aside0.mk (blk_below (g := gb0) (o := .cells #[.int .i64 a0_0, .int .i64 a0_1, .bool a0_2] 23 (0, 0)) (by (with_reducible repeat first | apply blk_drewN | apply blk_drew | apply blk_alloc); exact BK0.out) hb)
   have n1_ := Aside0.mk (blk_below (g := gb1) (o := .cells #[.int .i64 a1_0, .int .i64 a1_1, .bool a1_2] 23 (0, 0)) (by (with_reducible repeat first | apply blk_drewN | apply blk_drew | apply blk_alloc); exact BK1.out) hb)
   have n2_ := Aside0.mk (below_step (by repeat (first | (with_reducible first | exact HB.out | apply below_alloc | apply pw_below_drewN | apply below_drew1 | refine below_set ?_ GE0.out | refine below_set ?_ GE1.out) | exact HB.out)) hb)
   have n3_ := Aside0.mk (hbox)
   have n4_ := Aside0.mk ((by rw [hg]; exact (below_size (by repeat (first | (with_reducible first | exact HB.out | apply below_alloc | apply pw_below_drewN | apply below_drew1 | refine below_set ?_ GE0.out | refine below_set ?_ GE1.out) | exact HB.out))) : w.heap.size ≤ gb3))
   have n5_ := Aside0.mk ((by rw [hg]; exact (below_size (by repeat (first | (with_reducible first | exact HB.out | apply below_alloc | apply pw_below_drewN | apply below_drew1 | refine below_set ?_ GE0.out | refine below_set ?_ GE1.out) | exact HB.out))) : w.heap.size ≤ gb3))
   have n6_ := Aside0.mk ((by rw [hg]; exact Nat.ne_of_lt (blk_lt (g := gb0) (o := .cells #[.int .i64 a0_0, .int .i64 a0_1, .bool a0_2] 23 (0, 0)) (by (with_reducible repeat first | apply blk_drewN | apply blk_drew | apply blk_alloc); exact BK0.out)) : gb0 ≠ gb3))
   have n7_ := Aside0.mk ((by rw [hg]; exact Nat.ne_of_gt (blk_lt (g := gb0) (o := .cells #[.int .i64 a0_0, .int .i64 a0_1, .bool a0_2] 23 (0, 0)) (by (with_reducible repeat first | apply blk_drewN | apply blk_drew | apply blk_alloc); exact BK0.out)) : gb3 ≠ gb0))
   have n8_ := Aside0.mk ((by rw [hg]; exact Nat.ne_of_lt (blk_lt (g := gb1) (o := .cells #[.int .i64 a1_0, .int .i64 a1_1, .bool a1_2] 23 (0, 0)) (by (with_reducible repeat first | apply blk_drewN | apply blk_drew | apply blk_alloc); exact BK1.out)) : gb1 ≠ gb3))
   have n9_ := Aside0.mk ((by rw [hg]; exact Nat.ne_of_gt (blk_lt (g := gb1) (o := .cells #[.int .i64 a1_0, .int .i64 a1_1, .bool a1_2] 23 (0, 0)) (by (with_reducible repeat first | apply blk_drewN | apply blk_drew | apply blk_alloc); exact BK1.out)) : gb3 ≠ gb1))
   have z_NB274_273 := fun (h0_ : up b 10 9 = true) (h1_ : up b 10 10 = true) => (show gb3 ≠ gb2 from (by rw [hg]; exact Nat.ne_of_gt (by cases hs_ : b 12 with | false => exact blk_lt (Q_BK2 h0_ hs_) | true => exact blk_lt (Q_BK2_e12 hs_))))
   have z_NB273_274 := fun (h0_ : up b 10 9 = true) (h1_ : up b 10 10 = true) => (show gb2 ≠ gb3 from (by rw [hg]; exact Nat.ne_of_lt (by cases hs_ : b 12 with | false => exact blk_lt (Q_BK2 h0_ hs_) | true => exact blk_lt (Q_BK2_e12 hs_))))
   have z_NB275_274 := fun (h0_ : up b 10 10 = true) (h1_ : up b 10 11 = true) => (show gb4 ≠ gb3 from (by rw [hg]; exact Nat.ne_of_lt (by cases hs_ : b 14 with | false => exact blk_lt (Q_BK4 h1_ hs_) | true => exact blk_lt (Q_BK4_e14 hs_))))
   have z_NB274_275 := fun (h0_ : up b 10 10 = true) (h1_ : up b 10 11 = true) => (show gb3 ≠ gb4 from (by rw [hg]; exact Nat.ne_of_gt (by cases hs_ : b 14 with | false => exact blk_lt (Q_BK4 h1_ hs_) | true => exact blk_lt (Q_BK4_e14 hs_))))
   have z_BK2 := fun (h0_ : b 9 = true) (h1_ : b 12 = false) => (show w10.heap[gb2]? = some (.cells #[.int .i64 0, .int .i64 0, .bool false] 23 (0, 0)) from by first | exact (blk_below (g := gb2) (o := .cells #[.int .i64 0, .int .i64 0, .bool false] 23 (0, 0)) (by (with_reducible repeat first | apply blk_drewN | apply blk_drew | apply blk_alloc); exact (Q_BK2 h0_ h1_)) hb))
   have z_BK4 := fun (h0_ : b 11 = true) (h1_ : b 14 = false) => (show w10.heap[gb4]? = some (.cells #[.int .i64 0, .int .i64 0, .bool false] 23 (0, 0)) from by first | exact (blk_below (g := gb4) (o := .cells #[.int .i64 0, .int .i64 0, .bool false] 23 (0, 0)) (by (with_reducible repeat first | apply blk_drewN | apply blk_drew | apply blk_alloc); exact (Q_BK4 h0_ h1_)) hb))
   clear BK0
   clear BK1
   clear HB
   have BK0 := n0_
   have BK1 := n1_
   have HB := n2_
   have BK3 := n3_
   have GW3 := n4_
   have GE3 := n5_
   have NB262_274 := n6_
   have NB274_262 := n7_
   have NB263_274 := n8_
   have NB274_263 := n9_
   clear n0_ n1_ n2_ n3_ n4_ n5_ n6_ n7_ n8_ n9_
   clear hb hbox hg
   refine hK.out _ _ ⟨gb2, gb3, gb4, m9_, (.pointer (some ⟨gb3, 0, none⟩)), m11_, (by rw [ha.out]; exact putSel_upk 10 hb_ rfl rfl rfl), (by (with_reducible repeat first | apply blk_drewN | apply blk_drew | apply blk_alloc); exact BK0.out), (by (with_reducible repeat first | apply blk_drewN | apply blk_drew | apply blk_alloc); exact BK1.out), (by repeat (first | (with_reducible first | exact HB.out | apply below_alloc | apply pw_below_drewN | apply below_drew1 | refine below_set ?_ GE0.out | refine below_set ?_ GE1.out | refine below_set ?_ GE3.out) | exact HB.out)), @z_NB274_273, @z_NB273_274, Q_NB275_273, Q_NB273_275, @z_NB275_274, @z_NB274_275, z_BK2, Q_GW2, Q_GE2, Q_NB262_273, Q_NB273_262, Q_NB263_273, Q_NB273_263, fun _ _ => (by (with_reducible repeat first | apply blk_drewN | apply blk_drew | apply blk_alloc); exact BK3.out), fun _ => GW3.out, fun _ => GE3.out, fun _ => NB262_274.out, fun _ => NB274_262.out, fun _ => NB263_274.out, fun _ => NB274_263.out, z_BK4, Q_GW4, Q_GE4, Q_NB262_275, Q_NB275_262, Q_NB263_275, Q_NB275_263, fun h0_ => absurd ((hoff 12 (by kernel_rfl)).symm.trans h0_) (by decide), fun h0_ => absurd ((hoff 13 (by kernel_rfl)).symm.trans h0_) (by decide), fun h0_ => absurd ((hoff 14 (by kernel_rfl)).symm.trans h0_) (by decide), Q_X9_, fun _ => rfl, Q_X11_⟩
  refine steps_cons ?_ ?_
  ·
   rintro b a w' ⟨gb2, gb3, gb4, m9_, m10_, m11_, ha, Q_BK0, Q_BK1, Q_HB, Q_NB274_273, Q_NB273_274, Q_NB275_273, Q_NB273_275, Q_NB275_274, Q_NB274_275, Q_BK2, Q_GW2, Q_GE2, Q_NB262_273, Q_NB273_262, Q_NB263_273, Q_NB273_263, Q_BK3, Q_GW3, Q_GE3, Q_NB262_274, Q_NB274_262, Q_NB263_274, Q_NB274_263, Q_BK4, Q_GW4, Q_GE4, Q_NB262_275, Q_NB275_262, Q_NB263_275, Q_NB275_263, Q_BK2_e12, Q_BK3_e13, Q_BK4_e14, Q_X9_, Q_X10_, Q_X11_⟩ hb_ hon hoff
   refine ⟨_, rfl, fun K hK => ?_⟩
   replace ha := Aside0.mk ha
   have BK0 := Aside0.mk Q_BK0
   have BK1 := Aside0.mk Q_BK1
   have HB := Aside0.mk Q_HB
   refine box_step ?hg (N := 7) ?hd (cs := #[.int .i64 0, .int .i64 0, .bool false]) (t := 23) ?hr ?_; (case hd => rfl); (case hg => rfl); (case hr => first | (go_simp; done) | (go_simp; rfl))
   intro gb4 hg w10 hbox hb
   have n0_ := Aside0.mk (blk_below (g := gb0) (o := .cells #[.int .i64 a0_0, .int .i64 a0_1, .bool a0_2] 23 (0, 0)) (by (with_reducible repeat first | apply blk_drewN | apply blk_drew | apply blk_alloc); exact BK0.out) hb)
   have n1_ := Aside0.mk (blk_below (g := gb1) (o := .cells #[.int .i64 a1_0, .int .i64 a1_1, .bool a1_2] 23 (0, 0)) (by (with_reducible repeat first | apply blk_drewN | apply blk_drew | apply blk_alloc); exact BK1.out) hb)
   have n2_ := Aside0.mk (below_step (by repeat (first | (with_reducible first | exact HB.out | apply below_alloc | apply pw_below_drewN | apply below_drew1 | refine below_set ?_ GE0.out | refine below_set ?_ GE1.out) | exact HB.out)) hb)
   have n3_ := Aside0.mk (hbox)
   have n4_ := Aside0.mk ((by rw [hg]; exact (below_size (by repeat (first | (with_reducible first | exact HB.out | apply below_alloc | apply pw_below_drewN | apply below_drew1 | refine below_set ?_ GE0.out | refine below_set ?_ GE1.out) | exact HB.out))) : w.heap.size ≤ gb4))
   have n5_ := Aside0.mk ((by rw [hg]; exact (below_size (by repeat (first | (with_reducible first | exact HB.out | apply below_alloc | apply pw_below_drewN | apply below_drew1 | refine below_set ?_ GE0.out | refine below_set ?_ GE1.out) | exact HB.out))) : w.heap.size ≤ gb4))
   have n6_ := Aside0.mk ((by rw [hg]; exact Nat.ne_of_lt (blk_lt (g := gb0) (o := .cells #[.int .i64 a0_0, .int .i64 a0_1, .bool a0_2] 23 (0, 0)) (by (with_reducible repeat first | apply blk_drewN | apply blk_drew | apply blk_alloc); exact BK0.out)) : gb0 ≠ gb4))
   have n7_ := Aside0.mk ((by rw [hg]; exact Nat.ne_of_gt (blk_lt (g := gb0) (o := .cells #[.int .i64 a0_0, .int .i64 a0_1, .bool a0_2] 23 (0, 0)) (by (with_reducible repeat first | apply blk_drewN | apply blk_drew | apply blk_alloc); exact BK0.out)) : gb4 ≠ gb0))
   have n8_ := Aside0.mk ((by rw [hg]; exact Nat.ne_of_lt (blk_lt (g := gb1) (o := .cells #[.int .i64 a1_0, .int .i64 a1_1, .bool a1_2] 23 (0, 0)) (by (with_reducible repeat first | apply blk_drewN | apply blk_drew | apply blk_alloc); exact BK1.out)) : gb1 ≠ gb4))
   have n9_ := Aside0.mk ((by rw [hg]; exact Nat.ne_of_gt (blk_lt (g := gb1) (o := .cells #[.int .i64 a1_0, .int .i64 a1_1, .bool a1_2] 23 (0, 0)) (by (with_reducible repeat first | apply blk_drewN | apply blk_drew | apply blk_alloc); exact BK1.out)) : gb4 ≠ gb1))
   have z_NB275_273 := fun (h0_ : up b 11 9 = true) (h1_ : up b 11 11 = true) => (show gb4 ≠ gb2 from (by rw [hg]; exact Nat.ne_of_gt (by cases hs_ : b 12 with | false => exact blk_lt (Q_BK2 h0_ hs_) | true => exact blk_lt (Q_BK2_e12 hs_))))
   have z_NB273_275 := fun (h0_ : up b 11 9 = true) (h1_ : up b 11 11 = true) => (show gb2 ≠ gb4 from (by rw [hg]; exact Nat.ne_of_lt (by cases hs_ : b 12 with | false => exact blk_lt (Q_BK2 h0_ hs_) | true => exact blk_lt (Q_BK2_e12 hs_))))
   have z_NB275_274 := fun (h0_ : up b 11 10 = true) (h1_ : up b 11 11 = true) => (show gb4 ≠ gb3 from (by rw [hg]; exact Nat.ne_of_gt (by cases hs_ : b 13 with | false => exact blk_lt (Q_BK3 h0_ hs_) | true => exact blk_lt (Q_BK3_e13 hs_))))
   have z_NB274_275 := fun (h0_ : up b 11 10 = true) (h1_ : up b 11 11 = true) => (show gb3 ≠ gb4 from (by rw [hg]; exact Nat.ne_of_lt (by cases hs_ : b 13 with | false => exact blk_lt (Q_BK3 h0_ hs_) | true => exact blk_lt (Q_BK3_e13 hs_))))
   have z_BK2 := fun (h0_ : b 9 = true) (h1_ : b 12 = false) => (show w10.heap[gb2]? = some (.cells #[.int .i64 0, .int .i64 0, .bool false] 23 (0, 0)) from by first | exact (blk_below (g := gb2) (o := .cells #[.int .i64 0, .int .i64 0, .bool false] 23 (0, 0)) (by (with_reducible repeat first | apply blk_drewN | apply blk_drew | apply blk_alloc); exact (Q_BK2 h0_ h1_)) hb))
   have z_BK3 := fun (h0_ : b 10 = true) (h1_ : b 13 = false) => (show w10.heap[gb3]? = some (.cells #[.int .i64 0, .int .i64 0, .bool false] 23 (0, 0)) from by first | exact (blk_below (g := gb3) (o := .cells #[.int .i64 0, .int .i64 0, .bool false] 23 (0, 0)) (by (with_reducible repeat first | apply blk_drewN | apply blk_drew | apply blk_alloc); exact (Q_BK3 h0_ h1_)) hb))
   clear BK0
   clear BK1
   clear HB
   have BK0 := n0_
   have BK1 := n1_
   have HB := n2_
   have BK4 := n3_
   have GW4 := n4_
   have GE4 := n5_
   have NB262_275 := n6_
   have NB275_262 := n7_
   have NB263_275 := n8_
   have NB275_263 := n9_
   clear n0_ n1_ n2_ n3_ n4_ n5_ n6_ n7_ n8_ n9_
   clear hb hbox hg
   refine hK.out _ _ ⟨gb2, gb3, gb4, m9_, m10_, (.pointer (some ⟨gb4, 0, none⟩)), (by rw [ha.out]; exact putSel_upk 11 hb_ rfl rfl rfl), (by (with_reducible repeat first | apply blk_drewN | apply blk_drew | apply blk_alloc); exact BK0.out), (by (with_reducible repeat first | apply blk_drewN | apply blk_drew | apply blk_alloc); exact BK1.out), (by repeat (first | (with_reducible first | exact HB.out | apply below_alloc | apply pw_below_drewN | apply below_drew1 | refine below_set ?_ GE0.out | refine below_set ?_ GE1.out | refine below_set ?_ GE4.out) | exact HB.out)), Q_NB274_273, Q_NB273_274, @z_NB275_273, @z_NB273_275, @z_NB275_274, @z_NB274_275, z_BK2, Q_GW2, Q_GE2, Q_NB262_273, Q_NB273_262, Q_NB263_273, Q_NB273_263, z_BK3, Q_GW3, Q_GE3, Q_NB262_274, Q_NB274_262, Q_NB263_274, Q_NB274_263, fun _ _ => (by (with_reducible repeat first | apply blk_drewN | apply blk_drew | apply blk_alloc); exact BK4.out), fun _ => GW4.out, fun _ => GE4.out, fun _ => NB262_275.out, fun _ => NB275_262.out, fun _ => NB263_275.out, fun _ => NB275_263.out, fun h0_ => absurd ((hoff 12 (by kernel_rfl)).symm.trans h0_) (by decide), fun h0_ => absurd ((hoff 13 (by kernel_rfl)).symm.trans h0_) (by decide), fun h0_ => absurd ((hoff 14 (by kernel_rfl)).symm.trans h0_) (by decide), Q_X9_, Q_X10_, fun _ => rfl⟩
  refine steps_cons ?_ ?_
  ·
   rintro b a w' ⟨gb2, gb3, gb4, m9_, m10_, m11_, ha, Q_BK0, Q_BK1, Q_HB, Q_NB274_273, Q_NB273_274, Q_NB275_273, Q_NB273_275, Q_NB275_274, Q_NB274_275, Q_BK2, Q_GW2, Q_GE2, Q_NB262_273, Q_NB273_262, Q_NB263_273, Q_NB273_263, Q_BK3, Q_GW3, Q_GE3, Q_NB262_274, Q_NB274_262, Q_NB263_274, Q_NB274_263, Q_BK4, Q_GW4, Q_GE4, Q_NB262_275, Q_NB275_262, Q_NB263_275, Q_NB275_263, Q_BK2_e12, Q_BK3_e13, Q_BK4_e14, Q_X9_, Q_X10_, Q_X11_⟩ hb_ hon hoff
   refine ⟨_, rfl, fun K hK => ?_⟩
   have e5 : a.tmps[5]? = some (m9_) := by rw [ha]; exact putSel_on (e := (9, 5, m9_)) 9 rfl rfl (hon 9 (by kernel_rfl)) rfl
   rw [Q_X9_ (hon 9 (by kernel_rfl))] at e5
   have e14 : a.tmps[14]? = some (.agg #[.int .i64 t264, .int .i64 t265, .bool t266]) := by rw [ha]; exact putSel_on (e := (2, 14, .agg #[.int .i64 t264, .int .i64 t265, .bool t266])) 2 rfl rfl (hon 2 (by kernel_rfl)) rfl
   replace ha := Aside0.mk ha
   have BK0 := Aside0.mk Q_BK0
   have BK1 := Aside0.mk Q_BK1
   have HB := Aside0.mk Q_HB
   have NB274_273 := Aside0.mk (Q_NB274_273 (hon 9 (by kernel_rfl)) (hon 10 (by kernel_rfl)))
   have NB273_274 := Aside0.mk (Q_NB273_274 (hon 9 (by kernel_rfl)) (hon 10 (by kernel_rfl)))
   have NB275_273 := Aside0.mk (Q_NB275_273 (hon 9 (by kernel_rfl)) (hon 11 (by kernel_rfl)))
   have NB273_275 := Aside0.mk (Q_NB273_275 (hon 9 (by kernel_rfl)) (hon 11 (by kernel_rfl)))
   have NB275_274 := Aside0.mk (Q_NB275_274 (hon 10 (by kernel_rfl)) (hon 11 (by kernel_rfl)))
   have NB274_275 := Aside0.mk (Q_NB274_275 (hon 10 (by kernel_rfl)) (hon 11 (by kernel_rfl)))
   have BK2 := Aside0.mk (Q_BK2 (hon 9 (by kernel_rfl)) hb_)
   have GW2 := Aside0.mk (Q_GW2 (hon 9 (by kernel_rfl)))
   have GE2 := Aside0.mk (Q_GE2 (hon 9 (by kernel_rfl)))
   have NB262_273 := Aside0.mk (Q_NB262_273 (hon 9 (by kernel_rfl)))
   have NB273_262 := Aside0.mk (Q_NB273_262 (hon 9 (by kernel_rfl)))
   have NB263_273 := Aside0.mk (Q_NB263_273 (hon 9 (by kernel_rfl)))
   have NB273_263 := Aside0.mk (Q_NB273_263 (hon 9 (by kernel_rfl)))
   have BK3 := Aside0.mk (Q_BK3 (hon 10 (by kernel_rfl)) (hoff 13 (by kernel_rfl)))
   have GW3 := Aside0.mk (Q_GW3 (hon 10 (by kernel_rfl)))
   have GE3 := Aside0.mk (Q_GE3 (hon 10 (by kernel_rfl)))
   have NB262_274 := Aside0.mk (Q_NB262_274 (hon 10 (by kernel_rfl)))
   have NB274_262 := Aside0.mk (Q_NB274_262 (hon 10 (by kernel_rfl)))
   have NB263_274 := Aside0.mk (Q_NB263_274 (hon 10 (by kernel_rfl)))
   have NB274_263 := Aside0.mk (Q_NB274_263 (hon 10 (by kernel_rfl)))
   have BK4 := Aside0.mk (Q_BK4 (hon 11 (by kernel_rfl)) (hoff 14 (by kernel_rfl)))
   have GW4 := Aside0.mk (Q_GW4 (hon 11 (by kernel_rfl)))
   have GE4 := Aside0.mk (Q_GE4 (hon 11 (by kernel_rfl)))
   have NB262_275 := Aside0.mk (Q_NB262_275 (hon 11 (by kernel_rfl)))
   have NB275_262 := Aside0.mk (Q_NB275_262 (hon 11 (by kernel_rfl)))
   have NB263_275 := Aside0.mk (Q_NB263_275 (hon 11 (by kernel_rfl)))
   have NB275_263 := Aside0.mk (Q_NB275_263 (hon 11 (by kernel_rfl)))
   have hs17 : w'.cell? ⟨gb2, 0, none⟩ = some (.int .i64 0) := (blk_cell BK2.out 0).trans rfl
   have hfs17 := blk_frozen BK2.out 0
   have hns17_0 := NB262_273.out
   have hns17_1 := NB263_273.out
   have hns17_3 := NB274_273.out
   have hns17_4 := NB275_273.out
   have hms17_0 := NB273_262.out
   have hms17_1 := NB273_263.out
   have hms17_3 := NB273_274.out
   have hms17_4 := NB273_275.out
   have hs18 : w'.cell? ⟨gb2, 1, none⟩ = some (.int .i64 0) := (blk_cell BK2.out 1).trans rfl
   have hfs18 := blk_frozen BK2.out 1
   have hns18_0 := NB262_273.out
   have hns18_1 := NB263_273.out
   have hns18_3 := NB274_273.out
   have hns18_4 := NB275_273.out
   have hms18_0 := NB273_262.out
   have hms18_1 := NB273_263.out
   have hms18_3 := NB273_274.out
   have hms18_4 := NB273_275.out
   have hs19 : w'.cell? ⟨gb2, 2, none⟩ = some (.bool false) := (blk_cell BK2.out 2).trans rfl
   have hfs19 := blk_frozen BK2.out 2
   have hns19_0 := NB262_273.out
   have hns19_1 := NB263_273.out
   have hns19_3 := NB274_273.out
   have hns19_4 := NB275_273.out
   have hms19_0 := NB273_262.out
   have hms19_1 := NB273_263.out
   have hms19_3 := NB273_274.out
   have hms19_4 := NB273_275.out
   refine skip_ (w1 := ?_) (by rfl) rfl ?_ ?_
   rotate_left
   ·
    go_simp
    rfl
   refine hK.out _ _ ⟨gb2, gb3, gb4, m9_, m10_, m11_, (by rw [ha.out]; exact putSel_none (v := undef) rfl), (by (with_reducible repeat first | apply blk_drewN | apply blk_drew | apply blk_alloc); refine blk_far ?_ NB262_273.out _; (with_reducible repeat first | apply blk_drewN | apply blk_drew | apply blk_alloc); refine blk_far ?_ NB262_273.out _; (with_reducible repeat first | apply blk_drewN | apply blk_drew | apply blk_alloc); refine blk_far ?_ NB262_273.out _; (with_reducible repeat first | apply blk_drewN | apply blk_drew | apply blk_alloc); exact BK0.out), (by (with_reducible repeat first | apply blk_drewN | apply blk_drew | apply blk_alloc); refine blk_far ?_ NB263_273.out _; (with_reducible repeat first | apply blk_drewN | apply blk_drew | apply blk_alloc); refine blk_far ?_ NB263_273.out _; (with_reducible repeat first | apply blk_drewN | apply blk_drew | apply blk_alloc); refine blk_far ?_ NB263_273.out _; (with_reducible repeat first | apply blk_drewN | apply blk_drew | apply blk_alloc); exact BK1.out), (by repeat (first | (with_reducible first | exact HB.out | apply below_alloc | apply pw_below_drewN | apply below_drew1 | refine below_set ?_ GE0.out | refine below_set ?_ GE1.out | refine below_set ?_ GE2.out | refine below_set ?_ GE3.out | refine below_set ?_ GE4.out) | exact HB.out)), fun _ _ => NB274_273.out, fun _ _ => NB273_274.out, fun _ _ => NB275_273.out, fun _ _ => NB273_275.out, fun _ _ => NB275_274.out, fun _ _ => NB274_275.out, fun _ h1_ => absurd ((up_self b 12).symm.trans h1_) (by decide), fun _ => GW2.out, fun _ => GE2.out, fun _ => NB262_273.out, fun _ => NB273_262.out, fun _ => NB263_273.out, fun _ => NB273_263.out, fun _ _ => (by (with_reducible repeat first | apply blk_drewN | apply blk_drew | apply blk_alloc); refine blk_far ?_ NB274_273.out _; (with_reducible repeat first | apply blk_drewN | apply blk_drew | apply blk_alloc); refine blk_far ?_ NB274_273.out _; (with_reducible repeat first | apply blk_drewN | apply blk_drew | apply blk_alloc); refine blk_far ?_ NB274_273.out _; (with_reducible repeat first | apply blk_drewN | apply blk_drew | apply blk_alloc); exact BK3.out), fun _ => GW3.out, fun _ => GE3.out, fun _ => NB262_274.out, fun _ => NB274_262.out, fun _ => NB263_274.out, fun _ => NB274_263.out, fun _ _ => (by (with_reducible repeat first | apply blk_drewN | apply blk_drew | apply blk_alloc); refine blk_far ?_ NB275_273.out _; (with_reducible repeat first | apply blk_drewN | apply blk_drew | apply blk_alloc); refine blk_far ?_ NB275_273.out _; (with_reducible repeat first | apply blk_drewN | apply blk_drew | apply blk_alloc); refine blk_far ?_ NB275_273.out _; (with_reducible repeat first | apply blk_drewN | apply blk_drew | apply blk_alloc); exact BK4.out), fun _ => GW4.out, fun _ => GE4.out, fun _ => NB262_275.out, fun _ => NB275_262.out, fun _ => NB263_275.out, fun _ => NB275_263.out, fun _ => (by (with_reducible repeat first | apply blk_drewN | apply blk_drew | apply blk_alloc); refine blk_put (cs := #[.int .i64 t264, .int .i64 t265, .bool false]) ?_ 2 _ rfl; (with_reducible repeat first | apply blk_drewN | apply blk_drew | apply blk_alloc); refine blk_put (cs := #[.int .i64 t264, .int .i64 0, .bool false]) ?_ 1 _ rfl; (with_reducible repeat first | apply blk_drewN | apply blk_drew | apply blk_alloc); refine blk_put (cs := #[.int .i64 0, .int .i64 0, .bool false]) ?_ 0 _ rfl; (with_reducible repeat first | apply blk_drewN | apply blk_drew | apply blk_alloc); exact BK2.out), fun h0_ => absurd ((hoff 13 (by kernel_rfl)).symm.trans h0_) (by decide), fun h0_ => absurd ((hoff 14 (by kernel_rfl)).symm.trans h0_) (by decide), Q_X9_, Q_X10_, Q_X11_⟩
  refine steps_cons ?_ ?_
  ·
   rintro b a w' ⟨gb2, gb3, gb4, m9_, m10_, m11_, ha, Q_BK0, Q_BK1, Q_HB, Q_NB274_273, Q_NB273_274, Q_NB275_273, Q_NB273_275, Q_NB275_274, Q_NB274_275, Q_BK2, Q_GW2, Q_GE2, Q_NB262_273, Q_NB273_262, Q_NB263_273, Q_NB273_263, Q_BK3, Q_GW3, Q_GE3, Q_NB262_274, Q_NB274_262, Q_NB263_274, Q_NB274_263, Q_BK4, Q_GW4, Q_GE4, Q_NB262_275, Q_NB275_262, Q_NB263_275, Q_NB275_263, Q_BK2_e12, Q_BK3_e13, Q_BK4_e14, Q_X9_, Q_X10_, Q_X11_⟩ hb_ hon hoff
   refine ⟨_, rfl, fun K hK => ?_⟩
   have e6 : a.tmps[6]? = some (m10_) := by rw [ha]; exact putSel_on (e := (10, 6, m10_)) 10 rfl rfl (hon 10 (by kernel_rfl)) rfl
   rw [Q_X10_ (hon 10 (by kernel_rfl))] at e6
   have e17 : a.tmps[17]? = some (.agg #[.int .i64 t267, .int .i64 t268, .bool t269]) := by rw [ha]; exact putSel_on (e := (5, 17, .agg #[.int .i64 t267, .int .i64 t268, .bool t269])) 5 rfl rfl (hon 5 (by kernel_rfl)) rfl
   replace ha := Aside0.mk ha
   have BK0 := Aside0.mk Q_BK0
   have BK1 := Aside0.mk Q_BK1
   have HB := Aside0.mk Q_HB
   have NB274_273 := Aside0.mk (Q_NB274_273 (hon 9 (by kernel_rfl)) (hon 10 (by kernel_rfl)))
   have NB273_274 := Aside0.mk (Q_NB273_274 (hon 9 (by kernel_rfl)) (hon 10 (by kernel_rfl)))
   have NB275_273 := Aside0.mk (Q_NB275_273 (hon 9 (by kernel_rfl)) (hon 11 (by kernel_rfl)))
   have NB273_275 := Aside0.mk (Q_NB273_275 (hon 9 (by kernel_rfl)) (hon 11 (by kernel_rfl)))
   have NB275_274 := Aside0.mk (Q_NB275_274 (hon 10 (by kernel_rfl)) (hon 11 (by kernel_rfl)))
   have NB274_275 := Aside0.mk (Q_NB274_275 (hon 10 (by kernel_rfl)) (hon 11 (by kernel_rfl)))
   have GW2 := Aside0.mk (Q_GW2 (hon 9 (by kernel_rfl)))
   have GE2 := Aside0.mk (Q_GE2 (hon 9 (by kernel_rfl)))
   have NB262_273 := Aside0.mk (Q_NB262_273 (hon 9 (by kernel_rfl)))
   have NB273_262 := Aside0.mk (Q_NB273_262 (hon 9 (by kernel_rfl)))
   have NB263_273 := Aside0.mk (Q_NB263_273 (hon 9 (by kernel_rfl)))
   have NB273_263 := Aside0.mk (Q_NB273_263 (hon 9 (by kernel_rfl)))
   have BK3 := Aside0.mk (Q_BK3 (hon 10 (by kernel_rfl)) hb_)
   have GW3 := Aside0.mk (Q_GW3 (hon 10 (by kernel_rfl)))
   have GE3 := Aside0.mk (Q_GE3 (hon 10 (by kernel_rfl)))
   have NB262_274 := Aside0.mk (Q_NB262_274 (hon 10 (by kernel_rfl)))
   have NB274_262 := Aside0.mk (Q_NB274_262 (hon 10 (by kernel_rfl)))
   have NB263_274 := Aside0.mk (Q_NB263_274 (hon 10 (by kernel_rfl)))
   have NB274_263 := Aside0.mk (Q_NB274_263 (hon 10 (by kernel_rfl)))
   have BK4 := Aside0.mk (Q_BK4 (hon 11 (by kernel_rfl)) (hoff 14 (by kernel_rfl)))
   have GW4 := Aside0.mk (Q_GW4 (hon 11 (by kernel_rfl)))
   have GE4 := Aside0.mk (Q_GE4 (hon 11 (by kernel_rfl)))
   have NB262_275 := Aside0.mk (Q_NB262_275 (hon 11 (by kernel_rfl)))
   have NB275_262 := Aside0.mk (Q_NB275_262 (hon 11 (by kernel_rfl)))
   have NB263_275 := Aside0.mk (Q_NB263_275 (hon 11 (by kernel_rfl)))
   have NB275_263 := Aside0.mk (Q_NB275_263 (hon 11 (by kernel_rfl)))
   have BK2 := Aside0.mk (Q_BK2_e12 (hon 12 (by kernel_rfl)))
   have hs20 : w'.cell? ⟨gb3, 0, none⟩ = some (.int .i64 0) := (blk_cell BK3.out 0).trans rfl
   have hfs20 := blk_frozen BK3.out 0
   have hns20_0 := NB262_274.out
   have hns20_1 := NB263_274.out
   have hns20_2 := NB273_274.out
   have hns20_4 := NB275_274.out
   have hms20_0 := NB274_262.out
   have hms20_1 := NB274_263.out
   have hms20_2 := NB274_273.out
   have hms20_4 := NB274_275.out
   have hs21 : w'.cell? ⟨gb3, 1, none⟩ = some (.int .i64 0) := (blk_cell BK3.out 1).trans rfl
   have hfs21 := blk_frozen BK3.out 1
   have hns21_0 := NB262_274.out
   have hns21_1 := NB263_274.out
   have hns21_2 := NB273_274.out
   have hns21_4 := NB275_274.out
   have hms21_0 := NB274_262.out
   have hms21_1 := NB274_263.out
   have hms21_2 := NB274_273.out
   have hms21_4 := NB274_275.out
   have hs22 : w'.cell? ⟨gb3, 2, none⟩ = some (.bool false) := (blk_cell BK3.out 2).trans rfl
   have hfs22 := blk_frozen BK3.out 2
   have hns22_0 := NB262_274.out
   have hns22_1 := NB263_274.out
   have hns22_2 := NB273_274.out
   have hns22_4 := NB275_274.out
   have hms22_0 := NB274_262.out
   have hms22_1 := NB274_263.out
   have hms22_2 := NB274_273.out
   have hms22_4 := NB274_275.out
   refine skip_ (w1 := ?_) (by rfl) rfl ?_ ?_
   rotate_left
   ·
    go_simp
    rfl
   refine hK.out _ _ ⟨gb2, gb3, gb4, m9_, m10_, m11_, (by rw [ha.out]; exact putSel_none (v := undef) rfl), (by (with_reducible repeat first | apply blk_drewN | apply blk_drew | apply blk_alloc); refine blk_far ?_ NB262_274.out _; (with_reducible repeat first | apply blk_drewN | apply blk_drew | apply blk_alloc); refine blk_far ?_ NB262_274.out _; (with_reducible repeat first | apply blk_drewN | apply blk_drew | apply blk_alloc); refine blk_far ?_ NB262_274.out _; (with_reducible repeat first | apply blk_drewN | apply blk_drew | apply blk_alloc); exact BK0.out), (by (with_reducible repeat first | apply blk_drewN | apply blk_drew | apply blk_alloc); refine blk_far ?_ NB263_274.out _; (with_reducible repeat first | apply blk_drewN | apply blk_drew | apply blk_alloc); refine blk_far ?_ NB263_274.out _; (with_reducible repeat first | apply blk_drewN | apply blk_drew | apply blk_alloc); refine blk_far ?_ NB263_274.out _; (with_reducible repeat first | apply blk_drewN | apply blk_drew | apply blk_alloc); exact BK1.out), (by repeat (first | (with_reducible first | exact HB.out | apply below_alloc | apply pw_below_drewN | apply below_drew1 | refine below_set ?_ GE0.out | refine below_set ?_ GE1.out | refine below_set ?_ GE2.out | refine below_set ?_ GE3.out | refine below_set ?_ GE4.out) | exact HB.out)), fun _ _ => NB274_273.out, fun _ _ => NB273_274.out, fun _ _ => NB275_273.out, fun _ _ => NB273_275.out, fun _ _ => NB275_274.out, fun _ _ => NB274_275.out, fun _ h1_ => absurd ((hon 12 (by kernel_rfl)).symm.trans h1_) (by decide), fun _ => GW2.out, fun _ => GE2.out, fun _ => NB262_273.out, fun _ => NB273_262.out, fun _ => NB263_273.out, fun _ => NB273_263.out, fun _ h1_ => absurd ((up_self b 13).symm.trans h1_) (by decide), fun _ => GW3.out, fun _ => GE3.out, fun _ => NB262_274.out, fun _ => NB274_262.out, fun _ => NB263_274.out, fun _ => NB274_263.out, fun _ _ => (by (with_reducible repeat first | apply blk_drewN | apply blk_drew | apply blk_alloc); refine blk_far ?_ NB275_274.out _; (with_reducible repeat first | apply blk_drewN | apply blk_drew | apply blk_alloc); refine blk_far ?_ NB275_274.out _; (with_reducible repeat first | apply blk_drewN | apply blk_drew | apply blk_alloc); refine blk_far ?_ NB275_274.out _; (with_reducible repeat first | apply blk_drewN | apply blk_drew | apply blk_alloc); exact BK4.out), fun _ => GW4.out, fun _ => GE4.out, fun _ => NB262_275.out, fun _ => NB275_262.out, fun _ => NB263_275.out, fun _ => NB275_263.out, fun _ => (by (with_reducible repeat first | apply blk_drewN | apply blk_drew | apply blk_alloc); refine blk_far ?_ NB273_274.out _; (with_reducible repeat first | apply blk_drewN | apply blk_drew | apply blk_alloc); refine blk_far ?_ NB273_274.out _; (with_reducible repeat first | apply blk_drewN | apply blk_drew | apply blk_alloc); refine blk_far ?_ NB273_274.out _; (with_reducible repeat first | apply blk_drewN | apply blk_drew | apply blk_alloc); exact BK2.out), fun _ => (by (with_reducible repeat first | apply blk_drewN | apply blk_drew | apply blk_alloc); refine blk_put (cs := #[.int .i64 t267, .int .i64 t268, .bool false]) ?_ 2 _ rfl; (with_reducible repeat first | apply blk_drewN | apply blk_drew | apply blk_alloc); refine blk_put (cs := #[.int .i64 t267, .int .i64 0, .bool false]) ?_ 1 _ rfl; (with_reducible repeat first | apply blk_drewN | apply blk_drew | apply blk_alloc); refine blk_put (cs := #[.int .i64 0, .int .i64 0, .bool false]) ?_ 0 _ rfl; (with_reducible repeat first | apply blk_drewN | apply blk_drew | apply blk_alloc); exact BK3.out), fun h0_ => absurd ((hoff 14 (by kernel_rfl)).symm.trans h0_) (by decide), Q_X9_, Q_X10_, Q_X11_⟩
  refine steps_cons ?_ ?_
  ·
   rintro b a w' ⟨gb2, gb3, gb4, m9_, m10_, m11_, ha, Q_BK0, Q_BK1, Q_HB, Q_NB274_273, Q_NB273_274, Q_NB275_273, Q_NB273_275, Q_NB275_274, Q_NB274_275, Q_BK2, Q_GW2, Q_GE2, Q_NB262_273, Q_NB273_262, Q_NB263_273, Q_NB273_263, Q_BK3, Q_GW3, Q_GE3, Q_NB262_274, Q_NB274_262, Q_NB263_274, Q_NB274_263, Q_BK4, Q_GW4, Q_GE4, Q_NB262_275, Q_NB275_262, Q_NB263_275, Q_NB275_263, Q_BK2_e12, Q_BK3_e13, Q_BK4_e14, Q_X9_, Q_X10_, Q_X11_⟩ hb_ hon hoff
   refine ⟨_, rfl, fun K hK => ?_⟩
   have e7 : a.tmps[7]? = some (m11_) := by rw [ha]; exact putSel_on (e := (11, 7, m11_)) 11 rfl rfl (hon 11 (by kernel_rfl)) rfl
   rw [Q_X11_ (hon 11 (by kernel_rfl))] at e7
   have e20 : a.tmps[20]? = some (.agg #[.int .i64 t270, .int .i64 t271, .bool t272]) := by rw [ha]; exact putSel_on (e := (8, 20, .agg #[.int .i64 t270, .int .i64 t271, .bool t272])) 8 rfl rfl (hon 8 (by kernel_rfl)) rfl
   replace ha := Aside0.mk ha
   have BK0 := Aside0.mk Q_BK0
   have BK1 := Aside0.mk Q_BK1
   have HB := Aside0.mk Q_HB
   have NB274_273 := Aside0.mk (Q_NB274_273 (hon 9 (by kernel_rfl)) (hon 10 (by kernel_rfl)))
   have NB273_274 := Aside0.mk (Q_NB273_274 (hon 9 (by kernel_rfl)) (hon 10 (by kernel_rfl)))
   have NB275_273 := Aside0.mk (Q_NB275_273 (hon 9 (by kernel_rfl)) (hon 11 (by kernel_rfl)))
   have NB273_275 := Aside0.mk (Q_NB273_275 (hon 9 (by kernel_rfl)) (hon 11 (by kernel_rfl)))
   have NB275_274 := Aside0.mk (Q_NB275_274 (hon 10 (by kernel_rfl)) (hon 11 (by kernel_rfl)))
   have NB274_275 := Aside0.mk (Q_NB274_275 (hon 10 (by kernel_rfl)) (hon 11 (by kernel_rfl)))
   have GW2 := Aside0.mk (Q_GW2 (hon 9 (by kernel_rfl)))
   have GE2 := Aside0.mk (Q_GE2 (hon 9 (by kernel_rfl)))
   have NB262_273 := Aside0.mk (Q_NB262_273 (hon 9 (by kernel_rfl)))
   have NB273_262 := Aside0.mk (Q_NB273_262 (hon 9 (by kernel_rfl)))
   have NB263_273 := Aside0.mk (Q_NB263_273 (hon 9 (by kernel_rfl)))
   have NB273_263 := Aside0.mk (Q_NB273_263 (hon 9 (by kernel_rfl)))
   have GW3 := Aside0.mk (Q_GW3 (hon 10 (by kernel_rfl)))
   have GE3 := Aside0.mk (Q_GE3 (hon 10 (by kernel_rfl)))
   have NB262_274 := Aside0.mk (Q_NB262_274 (hon 10 (by kernel_rfl)))
   have NB274_262 := Aside0.mk (Q_NB274_262 (hon 10 (by kernel_rfl)))
   have NB263_274 := Aside0.mk (Q_NB263_274 (hon 10 (by kernel_rfl)))
   have NB274_263 := Aside0.mk (Q_NB274_263 (hon 10 (by kernel_rfl)))
   have BK4 := Aside0.mk (Q_BK4 (hon 11 (by kernel_rfl)) hb_)
   have GW4 := Aside0.mk (Q_GW4 (hon 11 (by kernel_rfl)))
   have GE4 := Aside0.mk (Q_GE4 (hon 11 (by kernel_rfl)))
   have NB262_275 := Aside0.mk (Q_NB262_275 (hon 11 (by kernel_rfl)))
   have NB275_262 := Aside0.mk (Q_NB275_262 (hon 11 (by kernel_rfl)))
   have NB263_275 := Aside0.mk (Q_NB263_275 (hon 11 (by kernel_rfl)))
   have NB275_263 := Aside0.mk (Q_NB275_263 (hon 11 (by kernel_rfl)))
   have BK2 := Aside0.mk (Q_BK2_e12 (hon 12 (by kernel_rfl)))
   have BK3 := Aside0.mk (Q_BK3_e13 (hon 13 (by kernel_rfl)))
   have hs23 : w'.cell? ⟨gb4, 0, none⟩ = some (.int .i64 0) := (blk_cell BK4.out 0).trans rfl
   have hfs23 := blk_frozen BK4.out 0
   have hns23_0 := NB262_275.out
   have hns23_1 := NB263_275.out
   have hns23_2 := NB273_275.out
   have hns23_3 := NB274_275.out
   have hms23_0 := NB275_262.out
   have hms23_1 := NB275_263.out
   have hms23_2 := NB275_273.out
   have hms23_3 := NB275_274.out
   have hs24 : w'.cell? ⟨gb4, 1, none⟩ = some (.int .i64 0) := (blk_cell BK4.out 1).trans rfl
   have hfs24 := blk_frozen BK4.out 1
   have hns24_0 := NB262_275.out
   have hns24_1 := NB263_275.out
   have hns24_2 := NB273_275.out
   have hns24_3 := NB274_275.out
   have hms24_0 := NB275_262.out
   have hms24_1 := NB275_263.out
   have hms24_2 := NB275_273.out
   have hms24_3 := NB275_274.out
   have hs25 : w'.cell? ⟨gb4, 2, none⟩ = some (.bool false) := (blk_cell BK4.out 2).trans rfl
   have hfs25 := blk_frozen BK4.out 2
   have hns25_0 := NB262_275.out
   have hns25_1 := NB263_275.out
   have hns25_2 := NB273_275.out
   have hns25_3 := NB274_275.out
   have hms25_0 := NB275_262.out
   have hms25_1 := NB275_263.out
   have hms25_2 := NB275_273.out
   have hms25_3 := NB275_274.out
   refine skip_ (w1 := ?_) (by rfl) rfl ?_ ?_
   rotate_left
   ·
    go_simp
    rfl
   refine hK.out _ _ ⟨gb2, gb3, gb4, m9_, m10_, m11_, (by rw [ha.out]; exact putSel_none (v := undef) rfl), (by (with_reducible repeat first | apply blk_drewN | apply blk_drew | apply blk_alloc); refine blk_far ?_ NB262_275.out _; (with_reducible repeat first | apply blk_drewN | apply blk_drew | apply blk_alloc); refine blk_far ?_ NB262_275.out _; (with_reducible repeat first | apply blk_drewN | apply blk_drew | apply blk_alloc); refine blk_far ?_ NB262_275.out _; (with_reducible repeat first | apply blk_drewN | apply blk_drew | apply blk_alloc); exact BK0.out), (by (with_reducible repeat first | apply blk_drewN | apply blk_drew | apply blk_alloc); refine blk_far ?_ NB263_275.out _; (with_reducible repeat first | apply blk_drewN | apply blk_drew | apply blk_alloc); refine blk_far ?_ NB263_275.out _; (with_reducible repeat first | apply blk_drewN | apply blk_drew | apply blk_alloc); refine blk_far ?_ NB263_275.out _; (with_reducible repeat first | apply blk_drewN | apply blk_drew | apply blk_alloc); exact BK1.out), (by repeat (first | (with_reducible first | exact HB.out | apply below_alloc | apply pw_below_drewN | apply below_drew1 | refine below_set ?_ GE0.out | refine below_set ?_ GE1.out | refine below_set ?_ GE2.out | refine below_set ?_ GE3.out | refine below_set ?_ GE4.out) | exact HB.out)), fun _ _ => NB274_273.out, fun _ _ => NB273_274.out, fun _ _ => NB275_273.out, fun _ _ => NB273_275.out, fun _ _ => NB275_274.out, fun _ _ => NB274_275.out, fun _ h1_ => absurd ((hon 12 (by kernel_rfl)).symm.trans h1_) (by decide), fun _ => GW2.out, fun _ => GE2.out, fun _ => NB262_273.out, fun _ => NB273_262.out, fun _ => NB263_273.out, fun _ => NB273_263.out, fun _ h1_ => absurd ((hon 13 (by kernel_rfl)).symm.trans h1_) (by decide), fun _ => GW3.out, fun _ => GE3.out, fun _ => NB262_274.out, fun _ => NB274_262.out, fun _ => NB263_274.out, fun _ => NB274_263.out, fun _ h1_ => absurd ((up_self b 14).symm.trans h1_) (by decide), fun _ => GW4.out, fun _ => GE4.out, fun _ => NB262_275.out, fun _ => NB275_262.out, fun _ => NB263_275.out, fun _ => NB275_263.out, fun _ => (by (with_reducible repeat first | apply blk_drewN | apply blk_drew | apply blk_alloc); refine blk_far ?_ NB273_275.out _; (with_reducible repeat first | apply blk_drewN | apply blk_drew | apply blk_alloc); refine blk_far ?_ NB273_275.out _; (with_reducible repeat first | apply blk_drewN | apply blk_drew | apply blk_alloc); refine blk_far ?_ NB273_275.out _; (with_reducible repeat first | apply blk_drewN | apply blk_drew | apply blk_alloc); exact BK2.out), fun _ => (by (with_reducible repeat first | apply blk_drewN | apply blk_drew | apply blk_alloc); refine blk_far ?_ NB274_275.out _; (with_reducible repeat first | apply blk_drewN | apply blk_drew | apply blk_alloc); refine blk_far ?_ NB274_275.out _; (with_reducible repeat first | apply blk_drewN | apply blk_drew | apply blk_alloc); refine blk_far ?_ NB274_275.out _; (with_reducible repeat first | apply blk_drewN | apply blk_drew | apply blk_alloc); exact BK3.out), fun _ => (by (with_reducible repeat first | apply blk_drewN | apply blk_drew | apply blk_alloc); refine blk_put (cs := #[.int .i64 t270, .int .i64 t271, .bool false]) ?_ 2 _ rfl; (with_reducible repeat first | apply blk_drewN | apply blk_drew | apply blk_alloc); refine blk_put (cs := #[.int .i64 t270, .int .i64 0, .bool false]) ?_ 1 _ rfl; (with_reducible repeat first | apply blk_drewN | apply blk_drew | apply blk_alloc); refine blk_put (cs := #[.int .i64 0, .int .i64 0, .bool false]) ?_ 0 _ rfl; (with_reducible repeat first | apply blk_drewN | apply blk_drew | apply blk_alloc); exact BK4.out), Q_X9_, Q_X10_, Q_X11_⟩
  exact steps_nil
 rintro b a w25 hall ⟨gb2, gb3, gb4, m9_, m10_, m11_, ha, Q_BK0, Q_BK1, Q_HB, Q_NB274_273, Q_NB273_274, Q_NB275_273, Q_NB273_275, Q_NB275_274, Q_NB274_275, Q_BK2, Q_GW2, Q_GE2, Q_NB262_273, Q_NB273_262, Q_NB263_273, Q_NB273_263, Q_BK3, Q_GW3, Q_GE3, Q_NB262_274, Q_NB274_262, Q_NB263_274, Q_NB274_263, Q_BK4, Q_GW4, Q_GE4, Q_NB262_275, Q_NB275_262, Q_NB263_275, Q_NB275_263, Q_BK2_e12, Q_BK3_e13, Q_BK4_e14, Q_X9_, Q_X10_, Q_X11_⟩
 clear BK0 BK1 HB
 have hb0_ := hall 0 (by kernel_rfl)
 have hb1_ := hall 1 (by kernel_rfl)
 have hb2_ := hall 2 (by kernel_rfl)
 have hb3_ := hall 3 (by kernel_rfl)
 have hb4_ := hall 4 (by kernel_rfl)
 have hb5_ := hall 5 (by kernel_rfl)
 have hb6_ := hall 6 (by kernel_rfl)
 have hb7_ := hall 7 (by kernel_rfl)
 have hb8_ := hall 8 (by kernel_rfl)
 have hb9_ := hall 9 (by kernel_rfl)
 have hb10_ := hall 10 (by kernel_rfl)
 have hb11_ := hall 11 (by kernel_rfl)
 have hb12_ := hall 12 (by kernel_rfl)
 have hb13_ := hall 13 (by kernel_rfl)
 have hb14_ := hall 14 (by kernel_rfl)
 subst ha
 obtain rfl := Q_X9_ hb9_
 obtain rfl := Q_X10_ hb10_
 obtain rfl := Q_X11_ hb11_
 simp only [putSel, hb0_, hb1_, hb2_, hb3_, hb4_, hb5_, hb6_, hb7_, hb8_, hb9_, hb10_, hb11_, hb12_, hb13_, hb14_, if_true, Act.put, List.setIfInBounds_toArray, List.set_cons_zero, List.set_cons_succ]
 have BK0 := Aside0.mk Q_BK0
 clear Q_BK0
 have BK1 := Aside0.mk Q_BK1
 clear Q_BK1
 have HB := Aside0.mk Q_HB
 clear Q_HB
 have NB274_273 := Aside0.mk (Q_NB274_273 hb9_ hb10_)
 clear Q_NB274_273
 have NB273_274 := Aside0.mk (Q_NB273_274 hb9_ hb10_)
 clear Q_NB273_274
 have NB275_273 := Aside0.mk (Q_NB275_273 hb9_ hb11_)
 clear Q_NB275_273
 have NB273_275 := Aside0.mk (Q_NB273_275 hb9_ hb11_)
 clear Q_NB273_275
 have NB275_274 := Aside0.mk (Q_NB275_274 hb10_ hb11_)
 clear Q_NB275_274
 have NB274_275 := Aside0.mk (Q_NB274_275 hb10_ hb11_)
 clear Q_NB274_275
 clear Q_BK2
 have GW2 := Aside0.mk (Q_GW2 hb9_)
 clear Q_GW2
 have GE2 := Aside0.mk (Q_GE2 hb9_)
 clear Q_GE2
 have NB262_273 := Aside0.mk (Q_NB262_273 hb9_)
 clear Q_NB262_273
 have NB273_262 := Aside0.mk (Q_NB273_262 hb9_)
 clear Q_NB273_262
 have NB263_273 := Aside0.mk (Q_NB263_273 hb9_)
 clear Q_NB263_273
 have NB273_263 := Aside0.mk (Q_NB273_263 hb9_)
 clear Q_NB273_263
 clear Q_BK3
 have GW3 := Aside0.mk (Q_GW3 hb10_)
 clear Q_GW3
 have GE3 := Aside0.mk (Q_GE3 hb10_)
 clear Q_GE3
 have NB262_274 := Aside0.mk (Q_NB262_274 hb10_)
 clear Q_NB262_274
 have NB274_262 := Aside0.mk (Q_NB274_262 hb10_)
 clear Q_NB274_262
 have NB263_274 := Aside0.mk (Q_NB263_274 hb10_)
 clear Q_NB263_274
 have NB274_263 := Aside0.mk (Q_NB274_263 hb10_)
 clear Q_NB274_263
 clear Q_BK4
 have GW4 := Aside0.mk (Q_GW4 hb11_)
 clear Q_GW4
 have GE4 := Aside0.mk (Q_GE4 hb11_)
 clear Q_GE4
 have NB262_275 := Aside0.mk (Q_NB262_275 hb11_)
 clear Q_NB262_275
 have NB275_262 := Aside0.mk (Q_NB275_262 hb11_)
 clear Q_NB275_262
 have NB263_275 := Aside0.mk (Q_NB263_275 hb11_)
 clear Q_NB263_275
 have NB275_263 := Aside0.mk (Q_NB275_263 hb11_)
 clear Q_NB275_263
 have BK2 := Aside0.mk (Q_BK2_e12 hb12_)
 clear Q_BK2_e12
 have BK3 := Aside0.mk (Q_BK3_e13 hb13_)
 clear Q_BK3_e13
 have BK4 := Aside0.mk (Q_BK4_e14 hb14_)
 clear Q_BK4_e14
 clear hall hb0_ hb1_ hb2_ hb3_ hb4_ hb5_ hb6_ hb7_ hb8_ hb9_ hb10_ hb11_ hb12_ hb13_ hb14_
 go_upto_region 2 with (fail)
 go_cut [68] (fun v68 wc => ∃ (kq : Nat) (x68_5 : Bool), v68 = .bool x68_5 ∧ Aside0 (j0 kq x68_5 a0_0 a0_1 a0_2 a1_0 a1_1 a1_2 t264 t265 t266 t267 t268 t269 t270 t271 t272 = some r) ∧ Aside0 (kq ≤ k) ∧ Aside0 (wc.heap[gb0]? = some (.cells #[.int .i64 a0_0, .int .i64 a0_1, .bool a0_2] 23 (0, 0))) ∧ Aside0 (wc.heap[gb1]? = some (.cells #[.int .i64 a1_0, .int .i64 a1_1, .bool a1_2] 23 (0, 0))) ∧ Aside0 (wc.heap[gb2]? = some (.cells #[.int .i64 t264, .int .i64 t265, .bool t266] 23 (0, 0))) ∧ Aside0 (wc.heap[gb3]? = some (.cells #[.int .i64 t267, .int .i64 t268, .bool t269] 23 (0, 0))) ∧ Aside0 (wc.heap[gb4]? = some (.cells #[.int .i64 t270, .int .i64 t271, .bool t272] 23 (0, 0))) ∧ Aside0 (Below w.heap.size w wc))
 case first =>
  as_aux_lemma =>
  have H := HC6.out
  clear HC6
  by_cases c26 : a0_0 < (-1073741824)
  ·
   rw [if_pos c26] at H
   have c26b0 : decide (a0_0 < (-1073741824)) = true := decide_eq_true c26
   clear c26
   (first | rw [c26b0] | (simp only [i64_w, i32_w]; rw [c26b0]) | skip)
   have H' := Aside0.mk H
   clear H
   have hnb27 := NB262_263.out
   have hnc27 := NB263_262.out
   have hnb28 := NB262_273.out
   have hnc28 := NB273_262.out
   have hnb29 := NB262_274.out
   have hnc29 := NB274_262.out
   have hnb30 := NB262_275.out
   have hnc30 := NB275_262.out
   have hcz31_0 : w25.cell? ⟨gb0, 0, none⟩ = some (.int .i64 a0_0) := (blk_cell BK0.out 0).trans rfl
   have hcz31_1 : w25.cell? ⟨gb0, 1, none⟩ = some (.int .i64 a0_1) := (blk_cell BK0.out 1).trans rfl
   have hcz31_2 : w25.cell? ⟨gb0, 2, none⟩ = some (.bool a0_2) := (blk_cell BK0.out 2).trans rfl
   have hfz31_0 := blk_frozen BK0.out 0
   have hfz31_1 := blk_frozen BK0.out 1
   have hfz31_2 := blk_frozen BK0.out 2
   go_wp2
   go_meet
   case rel => exact ⟨_, (true), (by first | rfl | (simp; done) | (simp [*]; done)), H', ⟨by first | omega | exact Nat.le_refl _⟩, ⟨by (with_reducible repeat first | apply blk_drewN | apply blk_drew | apply blk_alloc); exact BK0.out⟩, ⟨by (with_reducible repeat first | apply blk_drewN | apply blk_drew | apply blk_alloc); exact BK1.out⟩, ⟨by (with_reducible repeat first | apply blk_drewN | apply blk_drew | apply blk_alloc); exact BK2.out⟩, ⟨by (with_reducible repeat first | apply blk_drewN | apply blk_drew | apply blk_alloc); exact BK3.out⟩, ⟨by (with_reducible repeat first | apply blk_drewN | apply blk_drew | apply blk_alloc); exact BK4.out⟩, ⟨by repeat (first | (with_reducible first | exact HB.out | apply below_alloc | apply pw_below_drewN | apply below_drew1 | refine below_set ?_ GE0.out | refine below_set ?_ GE1.out | refine below_set ?_ GE2.out | refine below_set ?_ GE3.out | refine below_set ?_ GE4.out) | exact HB.out)⟩⟩
  ·
   as_aux_lemma =>
   rw [if_neg c26] at H
   have c26b0 : decide (a0_0 < (-1073741824)) = false := decide_eq_false c26
   clear c26
   (first | rw [c26b0] | (simp only [i64_w, i32_w]; rw [c26b0]) | skip)
   by_cases c32 : a0_0 > 1073741824
   ·
    rw [if_pos c32] at H
    have c32b0 : decide (1073741824 < a0_0) = true := decide_eq_true c32
    clear c32
    have H' := Aside0.mk H
    clear H
    have hnb33 := NB262_263.out
    have hnc33 := NB263_262.out
    have hnb34 := NB262_273.out
    have hnc34 := NB273_262.out
    have hnb35 := NB262_274.out
    have hnc35 := NB274_262.out
    have hnb36 := NB262_275.out
    have hnc36 := NB275_262.out
    have hcz37_0 : w25.cell? ⟨gb0, 0, none⟩ = some (.int .i64 a0_0) := (blk_cell BK0.out 0).trans rfl
    have hcz37_1 : w25.cell? ⟨gb0, 1, none⟩ = some (.int .i64 a0_1) := (blk_cell BK0.out 1).trans rfl
    have hcz37_2 : w25.cell? ⟨gb0, 2, none⟩ = some (.bool a0_2) := (blk_cell BK0.out 2).trans rfl
    have hfz37_0 := blk_frozen BK0.out 0
    have hfz37_1 := blk_frozen BK0.out 1
    have hfz37_2 := blk_frozen BK0.out 2
    go_wp2
    go_meet
    case rel => exact ⟨_, (true), (by first | rfl | (simp; done) | (simp [*]; done)), H', ⟨by first | omega | exact Nat.le_refl _⟩, ⟨by (with_reducible repeat first | apply blk_drewN | apply blk_drew | apply blk_alloc); exact BK0.out⟩, ⟨by (with_reducible repeat first | apply blk_drewN | apply blk_drew | apply blk_alloc); exact BK1.out⟩, ⟨by (with_reducible repeat first | apply blk_drewN | apply blk_drew | apply blk_alloc); exact BK2.out⟩, ⟨by (with_reducible repeat first | apply blk_drewN | apply blk_drew | apply blk_alloc); exact BK3.out⟩, ⟨by (with_reducible repeat first | apply blk_drewN | apply blk_drew | apply blk_alloc); exact BK4.out⟩, ⟨by repeat (first | (with_reducible first | exact HB.out | apply below_alloc | apply pw_below_drewN | apply below_drew1 | refine below_set ?_ GE0.out | refine below_set ?_ GE1.out | refine below_set ?_ GE2.out | refine below_set ?_ GE3.out | refine below_set ?_ GE4.out) | exact HB.out)⟩⟩
   ·
    as_aux_lemma =>
    rw [if_neg c32] at H
    have c32b0 : decide (1073741824 < a0_0) = false := decide_eq_false c32
    clear c32
    by_cases c38 : a0_1 < 1
    ·
     rw [if_pos c38] at H
     have c38b0 : decide (a0_1 < 1) = true := decide_eq_true c38
     clear c38
     have H' := Aside0.mk H
     clear H
     have hnb39 := NB262_263.out
     have hnc39 := NB263_262.out
     have hnb40 := NB262_273.out
     have hnc40 := NB273_262.out
     have hnb41 := NB262_274.out
     have hnc41 := NB274_262.out
     have hnb42 := NB262_275.out
     have hnc42 := NB275_262.out
     have hcz43_0 : w25.cell? ⟨gb0, 0, none⟩ = some (.int .i64 a0_0) := (blk_cell BK0.out 0).trans rfl
     have hcz43_1 : w25.cell? ⟨gb0, 1, none⟩ = some (.int .i64 a0_1) := (blk_cell BK0.out 1).trans rfl
     have hcz43_2 : w25.cell? ⟨gb0, 2, none⟩ = some (.bool a0_2) := (blk_cell BK0.out 2).trans rfl
     have hfz43_0 := blk_frozen BK0.out 0
     have hfz43_1 := blk_frozen BK0.out 1
     have hfz43_2 := blk_frozen BK0.out 2
     go_wp2
     go_meet
     case rel => exact ⟨_, (true), (by first | rfl | (simp; done) | (simp [*]; done)), H', ⟨by first | omega | exact Nat.le_refl _⟩, ⟨by (with_reducible repeat first | apply blk_drewN | apply blk_drew | apply blk_alloc); exact BK0.out⟩, ⟨by (with_reducible repeat first | apply blk_drewN | apply blk_drew | apply blk_alloc); exact BK1.out⟩, ⟨by (with_reducible repeat first | apply blk_drewN | apply blk_drew | apply blk_alloc); exact BK2.out⟩, ⟨by (with_reducible repeat first | apply blk_drewN | apply blk_drew | apply blk_alloc); exact BK3.out⟩, ⟨by (with_reducible repeat first | apply blk_drewN | apply blk_drew | apply blk_alloc); exact BK4.out⟩, ⟨by repeat (first | (with_reducible first | exact HB.out | apply below_alloc | apply pw_below_drewN | apply below_drew1 | refine below_set ?_ GE0.out | refine below_set ?_ GE1.out | refine below_set ?_ GE2.out | refine below_set ?_ GE3.out | refine below_set ?_ GE4.out) | exact HB.out)⟩⟩
    ·
     as_aux_lemma =>
     rw [if_neg c38] at H
     have c38b0 : decide (a0_1 < 1) = false := decide_eq_false c38
     clear c38
     by_cases c44 : a0_1 > 1073741824
     ·
      rw [if_pos c44] at H
      have c44b0 : decide (1073741824 < a0_1) = true := decide_eq_true c44
      clear c44
      have H' := Aside0.mk H
      clear H
      have hnb45 := NB262_263.out
      have hnc45 := NB263_262.out
      have hnb46 := NB262_273.out
      have hnc46 := NB273_262.out
      have hnb47 := NB262_274.out
      have hnc47 := NB274_262.out
      have hnb48 := NB262_275.out
      have hnc48 := NB275_262.out
      have hcz49_0 : w25.cell? ⟨gb0, 0, none⟩ = some (.int .i64 a0_0) := (blk_cell BK0.out 0).trans rfl
      have hcz49_1 : w25.cell? ⟨gb0, 1, none⟩ = some (.int .i64 a0_1) := (blk_cell BK0.out 1).trans rfl
      have hcz49_2 : w25.cell? ⟨gb0, 2, none⟩ = some (.bool a0_2) := (blk_cell BK0.out 2).trans rfl
      have hfz49_0 := blk_frozen BK0.out 0
      have hfz49_1 := blk_frozen BK0.out 1
      have hfz49_2 := blk_frozen BK0.out 2
      go_wp2
      go_meet
      case rel => exact ⟨_, (true), (by first | rfl | (simp; done) | (simp [*]; done)), H', ⟨by first | omega | exact Nat.le_refl _⟩, ⟨by (with_reducible repeat first | apply blk_drewN | apply blk_drew | apply blk_alloc); exact BK0.out⟩, ⟨by (with_reducible repeat first | apply blk_drewN | apply blk_drew | apply blk_alloc); exact BK1.out⟩, ⟨by (with_reducible repeat first | apply blk_drewN | apply blk_drew | apply blk_alloc); exact BK2.out⟩, ⟨by (with_reducible repeat first | apply blk_drewN | apply blk_drew | apply blk_alloc); exact BK3.out⟩, ⟨by (with_reducible repeat first | apply blk_drewN | apply blk_drew | apply blk_alloc); exact BK4.out⟩, ⟨by repeat (first | (with_reducible first | exact HB.out | apply below_alloc | apply pw_below_drewN | apply below_drew1 | refine below_set ?_ GE0.out | refine below_set ?_ GE1.out | refine below_set ?_ GE2.out | refine below_set ?_ GE3.out | refine below_set ?_ GE4.out) | exact HB.out)⟩⟩
     ·
      as_aux_lemma =>
      rw [if_neg c44] at H
      have c44b0 : decide (1073741824 < a0_1) = false := decide_eq_false c44
      clear c44
      by_cases c50 : a1_0 < (-1073741824)
      ·
       rw [if_pos c50] at H
       have c50b0 : decide (a1_0 < (-1073741824)) = true := decide_eq_true c50
       clear c50
       have H' := Aside0.mk H
       clear H
       have hnb51 := NB262_263.out
       have hnc51 := NB263_262.out
       have hnb52 := NB262_273.out
       have hnc52 := NB273_262.out
       have hnb53 := NB262_274.out
       have hnc53 := NB274_262.out
       have hnb54 := NB262_275.out
       have hnc54 := NB275_262.out
       have hcz55_0 : w25.cell? ⟨gb0, 0, none⟩ = some (.int .i64 a0_0) := (blk_cell BK0.out 0).trans rfl
       have hcz55_1 : w25.cell? ⟨gb0, 1, none⟩ = some (.int .i64 a0_1) := (blk_cell BK0.out 1).trans rfl
       have hcz55_2 : w25.cell? ⟨gb0, 2, none⟩ = some (.bool a0_2) := (blk_cell BK0.out 2).trans rfl
       have hfz55_0 := blk_frozen BK0.out 0
       have hfz55_1 := blk_frozen BK0.out 1
       have hfz55_2 := blk_frozen BK0.out 2
       have hnb56 := NB263_273.out
       have hnc56 := NB273_263.out
       have hnb57 := NB263_274.out
       have hnc57 := NB274_263.out
       have hnb58 := NB263_275.out
       have hnc58 := NB275_263.out
       have hcz59_0 : w25.cell? ⟨gb1, 0, none⟩ = some (.int .i64 a1_0) := (blk_cell BK1.out 0).trans rfl
       have hcz59_1 : w25.cell? ⟨gb1, 1, none⟩ = some (.int .i64 a1_1) := (blk_cell BK1.out 1).trans rfl
       have hcz59_2 : w25.cell? ⟨gb1, 2, none⟩ = some (.bool a1_2) := (blk_cell BK1.out 2).trans rfl
       have hfz59_0 := blk_frozen BK1.out 0
       have hfz59_1 := blk_frozen BK1.out 1
       have hfz59_2 := blk_frozen BK1.out 2
       go_wp2
       go_meet
       case rel => exact ⟨_, (true), (by first | rfl | (simp; done) | (simp [*]; done)), H', ⟨by first | omega | exact Nat.le_refl _⟩, ⟨by (with_reducible repeat first | apply blk_drewN | apply blk_drew | apply blk_alloc); exact BK0.out⟩, ⟨by (with_reducible repeat first | apply blk_drewN | apply blk_drew | apply blk_alloc); exact BK1.out⟩, ⟨by (with_reducible repeat first | apply blk_drewN | apply blk_drew | apply blk_alloc); exact BK2.out⟩, ⟨by (with_reducible repeat first | apply blk_drewN | apply blk_drew | apply blk_alloc); exact BK3.out⟩, ⟨by (with_reducible repeat first | apply blk_drewN | apply blk_drew | apply blk_alloc); exact BK4.out⟩, ⟨by repeat (first | (with_reducible first | exact HB.out | apply below_alloc | apply pw_below_drewN | apply below_drew1 | refine below_set ?_ GE0.out | refine below_set ?_ GE1.out | refine below_set ?_ GE2.out | refine below_set ?_ GE3.out | refine below_set ?_ GE4.out) | exact HB.out)⟩⟩
      ·
       as_aux_lemma =>
       rw [if_neg c50] at H
       have c50b0 : decide (a1_0 < (-1073741824)) = false := decide_eq_false c50
       clear c50
       by_cases c60 : a1_0 > 1073741824
       ·
        rw [if_pos c60] at H
        have c60b0 : decide (1073741824 < a1_0) = true := decide_eq_true c60
        clear c60
        have H' := Aside0.mk H
        clear H
        have hnb61 := NB262_263.out
        have hnc61 := NB263_262.out
        have hnb62 := NB262_273.out
        have hnc62 := NB273_262.out
        have hnb63 := NB262_274.out
        have hnc63 := NB274_262.out
        have hnb64 := NB262_275.out
        have hnc64 := NB275_262.out
        have hcz65_0 : w25.cell? ⟨gb0, 0, none⟩ = some (.int .i64 a0_0) := (blk_cell BK0.out 0).trans rfl
        have hcz65_1 : w25.cell? ⟨gb0, 1, none⟩ = some (.int .i64 a0_1) := (blk_cell BK0.out 1).trans rfl
        have hcz65_2 : w25.cell? ⟨gb0, 2, none⟩ = some (.bool a0_2) := (blk_cell BK0.out 2).trans rfl
        have hfz65_0 := blk_frozen BK0.out 0
        have hfz65_1 := blk_frozen BK0.out 1
        have hfz65_2 := blk_frozen BK0.out 2
        have hnb66 := NB263_273.out
        have hnc66 := NB273_263.out
        have hnb67 := NB263_274.out
        have hnc67 := NB274_263.out
        have hnb68 := NB263_275.out
        have hnc68 := NB275_263.out
        have hcz69_0 : w25.cell? ⟨gb1, 0, none⟩ = some (.int .i64 a1_0) := (blk_cell BK1.out 0).trans rfl
        have hcz69_1 : w25.cell? ⟨gb1, 1, none⟩ = some (.int .i64 a1_1) := (blk_cell BK1.out 1).trans rfl
        have hcz69_2 : w25.cell? ⟨gb1, 2, none⟩ = some (.bool a1_2) := (blk_cell BK1.out 2).trans rfl
        have hfz69_0 := blk_frozen BK1.out 0
        have hfz69_1 := blk_frozen BK1.out 1
        have hfz69_2 := blk_frozen BK1.out 2
        go_wp2
        go_meet
        case rel => exact ⟨_, (true), (by first | rfl | (simp; done) | (simp [*]; done)), H', ⟨by first | omega | exact Nat.le_refl _⟩, ⟨by (with_reducible repeat first | apply blk_drewN | apply blk_drew | apply blk_alloc); exact BK0.out⟩, ⟨by (with_reducible repeat first | apply blk_drewN | apply blk_drew | apply blk_alloc); exact BK1.out⟩, ⟨by (with_reducible repeat first | apply blk_drewN | apply blk_drew | apply blk_alloc); exact BK2.out⟩, ⟨by (with_reducible repeat first | apply blk_drewN | apply blk_drew | apply blk_alloc); exact BK3.out⟩, ⟨by (with_reducible repeat first | apply blk_drewN | apply blk_drew | apply blk_alloc); exact BK4.out⟩, ⟨by repeat (first | (with_reducible first | exact HB.out | apply below_alloc | apply pw_below_drewN | apply below_drew1 | refine below_set ?_ GE0.out | refine below_set ?_ GE1.out | refine below_set ?_ GE2.out | refine below_set ?_ GE3.out | refine below_set ?_ GE4.out) | exact HB.out)⟩⟩
       ·
        as_aux_lemma =>
        rw [if_neg c60] at H
        have c60b0 : decide (1073741824 < a1_0) = false := decide_eq_false c60
        clear c60
        by_cases c70 : a1_1 < 1
        ·
         rw [if_pos c70] at H
         have c70b0 : decide (a1_1 < 1) = true := decide_eq_true c70
         clear c70
         have H' := Aside0.mk H
         clear H
         have hnb71 := NB262_263.out
         have hnc71 := NB263_262.out
         have hnb72 := NB262_273.out
         have hnc72 := NB273_262.out
         have hnb73 := NB262_274.out
         have hnc73 := NB274_262.out
         have hnb74 := NB262_275.out
         have hnc74 := NB275_262.out
         have hcz75_0 : w25.cell? ⟨gb0, 0, none⟩ = some (.int .i64 a0_0) := (blk_cell BK0.out 0).trans rfl
         have hcz75_1 : w25.cell? ⟨gb0, 1, none⟩ = some (.int .i64 a0_1) := (blk_cell BK0.out 1).trans rfl
         have hcz75_2 : w25.cell? ⟨gb0, 2, none⟩ = some (.bool a0_2) := (blk_cell BK0.out 2).trans rfl
         have hfz75_0 := blk_frozen BK0.out 0
         have hfz75_1 := blk_frozen BK0.out 1
         have hfz75_2 := blk_frozen BK0.out 2
         have hnb76 := NB263_273.out
         have hnc76 := NB273_263.out
         have hnb77 := NB263_274.out
         have hnc77 := NB274_263.out
         have hnb78 := NB263_275.out
         have hnc78 := NB275_263.out
         have hcz79_0 : w25.cell? ⟨gb1, 0, none⟩ = some (.int .i64 a1_0) := (blk_cell BK1.out 0).trans rfl
         have hcz79_1 : w25.cell? ⟨gb1, 1, none⟩ = some (.int .i64 a1_1) := (blk_cell BK1.out 1).trans rfl
         have hcz79_2 : w25.cell? ⟨gb1, 2, none⟩ = some (.bool a1_2) := (blk_cell BK1.out 2).trans rfl
         have hfz79_0 := blk_frozen BK1.out 0
         have hfz79_1 := blk_frozen BK1.out 1
         have hfz79_2 := blk_frozen BK1.out 2
         go_wp2
         go_meet
         case rel => exact ⟨_, (true), (by first | rfl | (simp; done) | (simp [*]; done)), H', ⟨by first | omega | exact Nat.le_refl _⟩, ⟨by (with_reducible repeat first | apply blk_drewN | apply blk_drew | apply blk_alloc); exact BK0.out⟩, ⟨by (with_reducible repeat first | apply blk_drewN | apply blk_drew | apply blk_alloc); exact BK1.out⟩, ⟨by (with_reducible repeat first | apply blk_drewN | apply blk_drew | apply blk_alloc); exact BK2.out⟩, ⟨by (with_reducible repeat first | apply blk_drewN | apply blk_drew | apply blk_alloc); exact BK3.out⟩, ⟨by (with_reducible repeat first | apply blk_drewN | apply blk_drew | apply blk_alloc); exact BK4.out⟩, ⟨by repeat (first | (with_reducible first | exact HB.out | apply below_alloc | apply pw_below_drewN | apply below_drew1 | refine below_set ?_ GE0.out | refine below_set ?_ GE1.out | refine below_set ?_ GE2.out | refine below_set ?_ GE3.out | refine below_set ?_ GE4.out) | exact HB.out)⟩⟩
        ·
         as_aux_lemma =>
         rw [if_neg c70] at H
         have c70b0 : decide (a1_1 < 1) = false := decide_eq_false c70
         clear c70
         by_cases c80 : a1_1 > 1073741824
         ·
          rw [if_pos c80] at H
          have c80b0 : decide (1073741824 < a1_1) = true := decide_eq_true c80
          clear c80
          have H' := Aside0.mk H
          clear H
          have hnb81 := NB262_263.out
          have hnc81 := NB263_262.out
          have hnb82 := NB262_273.out
          have hnc82 := NB273_262.out
          have hnb83 := NB262_274.out
          have hnc83 := NB274_262.out
          have hnb84 := NB262_275.out
          have hnc84 := NB275_262.out
          have hcz85_0 : w25.cell? ⟨gb0, 0, none⟩ = some (.int .i64 a0_0) := (blk_cell BK0.out 0).trans rfl
          have hcz85_1 : w25.cell? ⟨gb0, 1, none⟩ = some (.int .i64 a0_1) := (blk_cell BK0.out 1).trans rfl
          have hcz85_2 : w25.cell? ⟨gb0, 2, none⟩ = some (.bool a0_2) := (blk_cell BK0.out 2).trans rfl
          have hfz85_0 := blk_frozen BK0.out 0
          have hfz85_1 := blk_frozen BK0.out 1
          have hfz85_2 := blk_frozen BK0.out 2
          have hnb86 := NB263_273.out
          have hnc86 := NB273_263.out
          have hnb87 := NB263_274.out
          have hnc87 := NB274_263.out
          have hnb88 := NB263_275.out
          have hnc88 := NB275_263.out
          have hcz89_0 : w25.cell? ⟨gb1, 0, none⟩ = some (.int .i64 a1_0) := (blk_cell BK1.out 0).trans rfl
          have hcz89_1 : w25.cell? ⟨gb1, 1, none⟩ = some (.int .i64 a1_1) := (blk_cell BK1.out 1).trans rfl
          have hcz89_2 : w25.cell? ⟨gb1, 2, none⟩ = some (.bool a1_2) := (blk_cell BK1.out 2).trans rfl
          have hfz89_0 := blk_frozen BK1.out 0
          have hfz89_1 := blk_frozen BK1.out 1
          have hfz89_2 := blk_frozen BK1.out 2
          go_wp2
          go_meet
          case rel => exact ⟨_, (true), (by first | rfl | (simp; done) | (simp [*]; done)), H', ⟨by first | omega | exact Nat.le_refl _⟩, ⟨by (with_reducible repeat first | apply blk_drewN | apply blk_drew | apply blk_alloc); exact BK0.out⟩, ⟨by (with_reducible repeat first | apply blk_drewN | apply blk_drew | apply blk_alloc); exact BK1.out⟩, ⟨by (with_reducible repeat first | apply blk_drewN | apply blk_drew | apply blk_alloc); exact BK2.out⟩, ⟨by (with_reducible repeat first | apply blk_drewN | apply blk_drew | apply blk_alloc); exact BK3.out⟩, ⟨by (with_reducible repeat first | apply blk_drewN | apply blk_drew | apply blk_alloc); exact BK4.out⟩, ⟨by repeat (first | (with_reducible first | exact HB.out | apply below_alloc | apply pw_below_drewN | apply below_drew1 | refine below_set ?_ GE0.out | refine below_set ?_ GE1.out | refine below_set ?_ GE2.out | refine below_set ?_ GE3.out | refine below_set ?_ GE4.out) | exact HB.out)⟩⟩
         ·
          as_aux_lemma =>
          rw [if_neg c80] at H
          have c80b0 : decide (1073741824 < a1_1) = false := decide_eq_false c80
          clear c80
          replace H := Option.bind_eq_some_iff.mp H
          obtain ⟨t276, A900, H⟩ := H
          try dsimp only at H
          have A90 := Aside0.mk A900
          clear A900
          by_cases c91 : t276 = true
          ·
           as_aux_lemma =>
           subst c91
           have H1 : ((coupletlaw04_fine.f k a1_0 a1_1 a1_2).bind fun t277 => (j0 k (!t277) a0_0 a0_1 a0_2 a1_0 a1_1 a1_2 t264 t265 t266 t267 t268 t269 t270 t271 t272)) = some r := by rw [if_pos rfl] at H; exact H
           clear H
           have H := H1
           clear H1
           replace H := Option.bind_eq_some_iff.mp H
           obtain ⟨t277, A920, H⟩ := H
           replace H : (j0 k (!t277) a0_0 a0_1 a0_2 a1_0 a1_1 a1_2 t264 t265 t266 t267 t268 t269 t270 t271 t272) = some r := H
           have A92 := Aside0.mk A920
           clear A920
           have H' := Aside0.mk H
           clear H
           have hnb93 := NB262_263.out
           have hnc93 := NB263_262.out
           have hnb94 := NB262_273.out
           have hnc94 := NB273_262.out
           have hnb95 := NB262_274.out
           have hnc95 := NB274_262.out
           have hnb96 := NB262_275.out
           have hnc96 := NB275_262.out
           have hcz97_0 : w25.cell? ⟨gb0, 0, none⟩ = some (.int .i64 a0_0) := (blk_cell BK0.out 0).trans rfl
           have hcz97_1 : w25.cell? ⟨gb0, 1, none⟩ = some (.int .i64 a0_1) := (blk_cell BK0.out 1).trans rfl
           have hcz97_2 : w25.cell? ⟨gb0, 2, none⟩ = some (.bool a0_2) := (blk_cell BK0.out 2).trans rfl
           have hfz97_0 := blk_frozen BK0.out 0
           have hfz97_1 := blk_frozen BK0.out 1
           have hfz97_2 := blk_frozen BK0.out 2
           have hnb98 := NB263_273.out
           have hnc98 := NB273_263.out
           have hnb99 := NB263_274.out
           have hnc99 := NB274_263.out
           have hnb100 := NB263_275.out
           have hnc100 := NB275_263.out
           have hcz101_0 : w25.cell? ⟨gb1, 0, none⟩ = some (.int .i64 a1_0) := (blk_cell BK1.out 0).trans rfl
           have hcz101_1 : w25.cell? ⟨gb1, 1, none⟩ = some (.int .i64 a1_1) := (blk_cell BK1.out 1).trans rfl
           have hcz101_2 : w25.cell? ⟨gb1, 2, none⟩ = some (.bool a1_2) := (blk_cell BK1.out 2).trans rfl
           have hfz101_0 := blk_frozen BK1.out 0
           have hfz101_1 := blk_frozen BK1.out 1
           have hfz101_2 := blk_frozen BK1.out 2
           go_wp2_with (first | (go_at_call 13; (with_reducible refine (coupletlaw04_fine.calls k a0_0 a0_1 a0_2 true _ A90.out).mono ?_); rintro e w102 ⟨rfl, hb⟩; have n0_ := Aside0.mk (blk_below (g := gb0) (o := .cells #[.int .i64 a0_0, .int .i64 a0_1, .bool a0_2] 23 (0, 0)) (by (with_reducible repeat first | apply blk_drewN | apply blk_drew | apply blk_alloc); exact BK0.out) hb); have n1_ := Aside0.mk (blk_below (g := gb1) (o := .cells #[.int .i64 a1_0, .int .i64 a1_1, .bool a1_2] 23 (0, 0)) (by (with_reducible repeat first | apply blk_drewN | apply blk_drew | apply blk_alloc); exact BK1.out) hb); have n2_ := Aside0.mk (blk_below (g := gb2) (o := .cells #[.int .i64 t264, .int .i64 t265, .bool t266] 23 (0, 0)) (by (with_reducible repeat first | apply blk_drewN | apply blk_drew | apply blk_alloc); exact BK2.out) hb); have n3_ := Aside0.mk (blk_below (g := gb3) (o := .cells #[.int .i64 t267, .int .i64 t268, .bool t269] 23 (0, 0)) (by (with_reducible repeat first | apply blk_drewN | apply blk_drew | apply blk_alloc); exact BK3.out) hb); have n4_ := Aside0.mk (blk_below (g := gb4) (o := .cells #[.int .i64 t270, .int .i64 t271, .bool t272] 23 (0, 0)) (by (with_reducible repeat first | apply blk_drewN | apply blk_drew | apply blk_alloc); exact BK4.out) hb); have n5_ := Aside0.mk (below_step (by repeat (first | (with_reducible first | exact HB.out | apply below_alloc | apply pw_below_drewN | apply below_drew1 | refine below_set ?_ GE0.out | refine below_set ?_ GE1.out | refine below_set ?_ GE2.out | refine below_set ?_ GE3.out | refine below_set ?_ GE4.out) | exact HB.out)) hb); clear BK0; clear BK1; clear BK2; clear BK3; clear BK4; clear HB; have BK0 := n0_; have BK1 := n1_; have BK2 := n2_; have BK3 := n3_; have BK4 := n4_; have HB := n5_; clear n0_ n1_ n2_ n3_ n4_ n5_; (try clear hb); (try clear hb2); (try clear hk); (try clear hi); have hcz103_0 : w102.cell? ⟨gb1, 0, none⟩ = some (.int .i64 a1_0) := (blk_cell BK1.out 0).trans rfl; have hcz103_1 : w102.cell? ⟨gb1, 1, none⟩ = some (.int .i64 a1_1) := (blk_cell BK1.out 1).trans rfl; have hcz103_2 : w102.cell? ⟨gb1, 2, none⟩ = some (.bool a1_2) := (blk_cell BK1.out 2).trans rfl; have hfz103_0 := blk_frozen BK1.out 0; have hfz103_1 := blk_frozen BK1.out 1; have hfz103_2 := blk_frozen BK1.out 2) | (go_at_call 13; (with_reducible refine (coupletlaw04_fine.calls k a1_0 a1_1 a1_2 t277 _ A92.out).mono ?_); rintro e w104 ⟨rfl, hb⟩; have n0_ := Aside0.mk (blk_below (g := gb0) (o := .cells #[.int .i64 a0_0, .int .i64 a0_1, .bool a0_2] 23 (0, 0)) (by (with_reducible repeat first | apply blk_drewN | apply blk_drew | apply blk_alloc); exact BK0.out) hb); have n1_ := Aside0.mk (blk_below (g := gb1) (o := .cells #[.int .i64 a1_0, .int .i64 a1_1, .bool a1_2] 23 (0, 0)) (by (with_reducible repeat first | apply blk_drewN | apply blk_drew | apply blk_alloc); exact BK1.out) hb); have n2_ := Aside0.mk (blk_below (g := gb2) (o := .cells #[.int .i64 t264, .int .i64 t265, .bool t266] 23 (0, 0)) (by (with_reducible repeat first | apply blk_drewN | apply blk_drew | apply blk_alloc); exact BK2.out) hb); have n3_ := Aside0.mk (blk_below (g := gb3) (o := .cells #[.int .i64 t267, .int .i64 t268, .bool t269] 23 (0, 0)) (by (with_reducible repeat first | apply blk_drewN | apply blk_drew | apply blk_alloc); exact BK3.out) hb); have n4_ := Aside0.mk (blk_below (g := gb4) (o := .cells #[.int .i64 t270, .int .i64 t271, .bool t272] 23 (0, 0)) (by (with_reducible repeat first | apply blk_drewN | apply blk_drew | apply blk_alloc); exact BK4.out) hb); have n5_ := Aside0.mk (below_step (by repeat (first | (with_reducible first | exact HB.out | apply below_alloc | apply pw_below_drewN | apply below_drew1 | refine below_set ?_ GE0.out | refine below_set ?_ GE1.out | refine below_set ?_ GE2.out | refine below_set ?_ GE3.out | refine below_set ?_ GE4.out) | exact HB.out)) hb); clear BK0; clear BK1; clear BK2; clear BK3; clear BK4; clear HB; have BK0 := n0_; have BK1 := n1_; have BK2 := n2_; have BK3 := n3_; have BK4 := n4_; have HB := n5_; clear n0_ n1_ n2_ n3_ n4_ n5_; (try clear hb); (try clear hb2); (try clear hk); (try clear hi)))
           go_meet
           case rel => exact ⟨_, (!t277), (by first | rfl | (simp; done) | (simp [*]; done)), H', ⟨by first | omega | exact Nat.le_refl _⟩, ⟨by (with_reducible repeat first | apply blk_drewN | apply blk_drew | apply blk_alloc); exact BK0.out⟩, ⟨by (with_reducible repeat first | apply blk_drewN | apply blk_drew | apply blk_alloc); exact BK1.out⟩, ⟨by (with_reducible repeat first | apply blk_drewN | apply blk_drew | apply blk_alloc); exact BK2.out⟩, ⟨by (with_reducible repeat first | apply blk_drewN | apply blk_drew | apply blk_alloc); exact BK3.out⟩, ⟨by (with_reducible repeat first | apply blk_drewN | apply blk_drew | apply blk_alloc); exact BK4.out⟩, ⟨by repeat (first | (with_reducible first | exact HB.out | apply below_alloc | apply pw_below_drewN | apply below_drew1 | refine below_set ?_ GE0.out | refine below_set ?_ GE1.out | refine below_set ?_ GE2.out | refine below_set ?_ GE3.out | refine below_set ?_ GE4.out) | exact HB.out)⟩⟩
          ·
           as_aux_lemma =>
           replace c91 := Bool.eq_false_iff.mpr c91
           subst c91
           have H1 : (j0 k true a0_0 a0_1 a0_2 a1_0 a1_1 a1_2 t264 t265 t266 t267 t268 t269 t270 t271 t272) = some r := by rw [if_neg (show ¬ (false = true) by decide)] at H; exact H
           clear H
           have H := H1
           clear H1
           have H' := Aside0.mk H
           clear H
           have hnb105 := NB262_263.out
           have hnc105 := NB263_262.out
           have hnb106 := NB262_273.out
           have hnc106 := NB273_262.out
           have hnb107 := NB262_274.out
           have hnc107 := NB274_262.out
           have hnb108 := NB262_275.out
           have hnc108 := NB275_262.out
           have hcz109_0 : w25.cell? ⟨gb0, 0, none⟩ = some (.int .i64 a0_0) := (blk_cell BK0.out 0).trans rfl
           have hcz109_1 : w25.cell? ⟨gb0, 1, none⟩ = some (.int .i64 a0_1) := (blk_cell BK0.out 1).trans rfl
           have hcz109_2 : w25.cell? ⟨gb0, 2, none⟩ = some (.bool a0_2) := (blk_cell BK0.out 2).trans rfl
           have hfz109_0 := blk_frozen BK0.out 0
           have hfz109_1 := blk_frozen BK0.out 1
           have hfz109_2 := blk_frozen BK0.out 2
           have hnb110 := NB263_273.out
           have hnc110 := NB273_263.out
           have hnb111 := NB263_274.out
           have hnc111 := NB274_263.out
           have hnb112 := NB263_275.out
           have hnc112 := NB275_263.out
           have hcz113_0 : w25.cell? ⟨gb1, 0, none⟩ = some (.int .i64 a1_0) := (blk_cell BK1.out 0).trans rfl
           have hcz113_1 : w25.cell? ⟨gb1, 1, none⟩ = some (.int .i64 a1_1) := (blk_cell BK1.out 1).trans rfl
           have hcz113_2 : w25.cell? ⟨gb1, 2, none⟩ = some (.bool a1_2) := (blk_cell BK1.out 2).trans rfl
           have hfz113_0 := blk_frozen BK1.out 0
           have hfz113_1 := blk_frozen BK1.out 1
           have hfz113_2 := blk_frozen BK1.out 2
           go_wp2_with (first | (go_at_call 13; (with_reducible refine (coupletlaw04_fine.calls k a0_0 a0_1 a0_2 false _ A90.out).mono ?_); rintro e w114 ⟨rfl, hb⟩; have n0_ := Aside0.mk (blk_below (g := gb0) (o := .cells #[.int .i64 a0_0, .int .i64 a0_1, .bool a0_2] 23 (0, 0)) (by (with_reducible repeat first | apply blk_drewN | apply blk_drew | apply blk_alloc); exact BK0.out) hb); have n1_ := Aside0.mk (blk_below (g := gb1) (o := .cells #[.int .i64 a1_0, .int .i64 a1_1, .bool a1_2] 23 (0, 0)) (by (with_reducible repeat first | apply blk_drewN | apply blk_drew | apply blk_alloc); exact BK1.out) hb); have n2_ := Aside0.mk (blk_below (g := gb2) (o := .cells #[.int .i64 t264, .int .i64 t265, .bool t266] 23 (0, 0)) (by (with_reducible repeat first | apply blk_drewN | apply blk_drew | apply blk_alloc); exact BK2.out) hb); have n3_ := Aside0.mk (blk_below (g := gb3) (o := .cells #[.int .i64 t267, .int .i64 t268, .bool t269] 23 (0, 0)) (by (with_reducible repeat first | apply blk_drewN | apply blk_drew | apply blk_alloc); exact BK3.out) hb); have n4_ := Aside0.mk (blk_below (g := gb4) (o := .cells #[.int .i64 t270, .int .i64 t271, .bool t272] 23 (0, 0)) (by (with_reducible repeat first | apply blk_drewN | apply blk_drew | apply blk_alloc); exact BK4.out) hb); have n5_ := Aside0.mk (below_step (by repeat (first | (with_reducible first | exact HB.out | apply below_alloc | apply pw_below_drewN | apply below_drew1 | refine below_set ?_ GE0.out | refine below_set ?_ GE1.out | refine below_set ?_ GE2.out | refine below_set ?_ GE3.out | refine below_set ?_ GE4.out) | exact HB.out)) hb); clear BK0; clear BK1; clear BK2; clear BK3; clear BK4; clear HB; have BK0 := n0_; have BK1 := n1_; have BK2 := n2_; have BK3 := n3_; have BK4 := n4_; have HB := n5_; clear n0_ n1_ n2_ n3_ n4_ n5_; (try clear hb); (try clear hb2); (try clear hk); (try clear hi)))
           go_meet
           case rel => exact ⟨_, (true), (by first | rfl | (simp; done) | (simp [*]; done)), H', ⟨by first | omega | exact Nat.le_refl _⟩, ⟨by (with_reducible repeat first | apply blk_drewN | apply blk_drew | apply blk_alloc); exact BK0.out⟩, ⟨by (with_reducible repeat first | apply blk_drewN | apply blk_drew | apply blk_alloc); exact BK1.out⟩, ⟨by (with_reducible repeat first | apply blk_drewN | apply blk_drew | apply blk_alloc); exact BK2.out⟩, ⟨by (with_reducible repeat first | apply blk_drewN | apply blk_drew | apply blk_alloc); exact BK3.out⟩, ⟨by (with_reducible repeat first | apply blk_drewN | apply blk_drew | apply blk_alloc); exact BK4.out⟩, ⟨by repeat (first | (with_reducible first | exact HB.out | apply below_alloc | apply pw_below_drewN | apply below_drew1 | refine below_set ?_ GE0.out | refine below_set ?_ GE1.out | refine below_set ?_ GE2.out | refine below_set ?_ GE3.out | refine below_set ?_ GE4.out) | exact HB.out)⟩⟩
 case rest =>
  clear HC6
  try clear c1
  try clear c2
  try clear p2
  try clear c3
  try clear c4
  try clear c5
  try clear c6
  try clear c7
  try clear c8
  try clear c9
  try clear c10
  try clear c11
  try clear c26
  try clear c26b0
  try clear c27
  try clear c28
  try clear c29
  try clear c30
  try clear c32
  try clear c32b0
  try clear c33
  try clear c34
  try clear c35
  try clear c36
  try clear c38
  try clear c38b0
  try clear c39
  try clear c40
  try clear c41
  try clear c42
  try clear c44
  try clear c44b0
  try clear c45
  try clear c46
  try clear c47
  try clear c48
  try clear c50
  try clear c50b0
  try clear c51
  try clear c52
  try clear c53
  try clear c54
  try clear c56
  try clear c57
  try clear c58
  try clear c60
  try clear c60b0
  try clear c61
  try clear c62
  try clear c63
  try clear c64
  try clear c66
  try clear c67
  try clear c68
  try clear c70
  try clear c70b0
  try clear c71
  try clear c72
  try clear c73
  try clear c74
  try clear c76
  try clear c77
  try clear c78
  try clear c80
  try clear c80b0
  try clear c81
  try clear c82
  try clear c83
  try clear c84
  try clear c86
  try clear c87
  try clear c88
  try clear c91
  try clear c93
  try clear c94
  try clear c95
  try clear c96
  try clear c98
  try clear c99
  try clear c100
  try clear c105
  try clear c106
  try clear c107
  try clear c108
  try clear c110
  try clear c111
  try clear c112
  try clear hcz101_0
  try clear hcz101_1
  try clear hcz101_2
  try clear hcz103_0
  try clear hcz103_1
  try clear hcz103_2
  try clear hcz109_0
  try clear hcz109_1
  try clear hcz109_2
  try clear hcz113_0
  try clear hcz113_1
  try clear hcz113_2
  try clear hcz31_0
  try clear hcz31_1
  try clear hcz31_2
  try clear hcz37_0
  try clear hcz37_1
  try clear hcz37_2
  try clear hcz43_0
  try clear hcz43_1
  try clear hcz43_2
  try clear hcz49_0
  try clear hcz49_1
  try clear hcz49_2
  try clear hcz55_0
  try clear hcz55_1
  try clear hcz55_2
  try clear hcz59_0
  try clear hcz59_1
  try clear hcz59_2
  try clear hcz65_0
  try clear hcz65_1
  try clear hcz65_2
  try clear hcz69_0
  try clear hcz69_1
  try clear hcz69_2
  try clear hcz75_0
  try clear hcz75_1
  try clear hcz75_2
  try clear hcz79_0
  try clear hcz79_1
  try clear hcz79_2
  try clear hcz85_0
  try clear hcz85_1
  try clear hcz85_2
  try clear hcz89_0
  try clear hcz89_1
  try clear hcz89_2
  try clear hcz97_0
  try clear hcz97_1
  try clear hcz97_2
  try clear hfz101_0
  try clear hfz101_1
  try clear hfz101_2
  try clear hfz103_0
  try clear hfz103_1
  try clear hfz103_2
  try clear hfz109_0
  try clear hfz109_1
  try clear hfz109_2
  try clear hfz113_0
  try clear hfz113_1
  try clear hfz113_2
  try clear hfz31_0
  try clear hfz31_1
  try clear hfz31_2
  try clear hfz37_0
  try clear hfz37_1
  try clear hfz37_2
  try clear hfz43_0
  try clear hfz43_1
  try clear hfz43_2
  try clear hfz49_0
  try clear hfz49_1
  try clear hfz49_2
  try clear hfz55_0
  try clear hfz55_1
  try clear hfz55_2
  try clear hfz59_0
  try clear hfz59_1
  try clear hfz59_2
  try clear hfz65_0
  try clear hfz65_1
  try clear hfz65_2
  try clear hfz69_0
  try clear hfz69_1
  try clear hfz69_2
  try clear hfz75_0
  try clear hfz75_1
  try clear hfz75_2
  try clear hfz79_0
  try clear hfz79_1
  try clear hfz79_2
  try clear hfz85_0
  try clear hfz85_1
  try clear hfz85_2
  try clear hfz89_0
  try clear hfz89_1
  try clear hfz89_2
  try clear hfz97_0
  try clear hfz97_1
  try clear hfz97_2
  obtain ⟨kq, x68_5, rfl, HA, HJ5, BK0, BK1, BK2, BK3, BK4, HB⟩ := hcut
  cases kq with
  | zero => exact absurd HA.out (by simp [j0])
  | succ kj5 =>
   have H := HA.out
   clear HA
   simp only [j0] at H
   by_cases c115 : x68_5 = true
   ·
    subst c115
    have H1 : (if t266 = true then (if t269 = true then (if t272 = true then ((coupletlaw04_awake.f kj5).bind fun t278 => (some t278)) else (some false)) else (some false)) else (some false)) = some r := by rw [if_pos rfl] at H; exact H
    clear H
    have H := H1
    clear H1
    by_cases c116 : t266 = true
    ·
     subst c116
     have H1 : (if t269 = true then (if t272 = true then ((coupletlaw04_awake.f kj5).bind fun t278 => (some t278)) else (some false)) else (some false)) = some r := by rw [if_pos rfl] at H; exact H
     clear H
     have H := H1
     clear H1
     by_cases c117 : t269 = true
     ·
      subst c117
      have H1 : (if t272 = true then ((coupletlaw04_awake.f kj5).bind fun t278 => (some t278)) else (some false)) = some r := by rw [if_pos rfl] at H; exact H
      clear H
      have H := H1
      clear H1
      by_cases c118 : t272 = true
      ·
       subst c118
       have H1 : ((coupletlaw04_awake.f kj5).bind fun t278 => (some t278)) = some r := by rw [if_pos rfl] at H; exact H
       clear H
       have H := H1
       clear H1
       replace H := Option.bind_eq_some_iff.mp H
       obtain ⟨t278, A1190, H⟩ := H
       replace H : (some t278) = some r := H
       have A119 := Aside0.mk A1190
       clear A1190
       obtain rfl := Option.some.inj H
       have hnb120 := NB273_262.out
       have hnc120 := NB262_273.out
       have hnb121 := NB273_263.out
       have hnc121 := NB263_273.out
       have hnb122 := NB273_274.out
       have hnc122 := NB274_273.out
       have hnb123 := NB273_275.out
       have hnc123 := NB275_273.out
       have hcz124_0 : wc.cell? ⟨gb2, 0, none⟩ = some (.int .i64 t264) := (blk_cell BK2.out 0).trans rfl
       have hcz124_1 : wc.cell? ⟨gb2, 1, none⟩ = some (.int .i64 t265) := (blk_cell BK2.out 1).trans rfl
       have hcz124_2 : wc.cell? ⟨gb2, 2, none⟩ = some (.bool true) := (blk_cell BK2.out 2).trans rfl
       have hfz124_0 := blk_frozen BK2.out 0
       have hfz124_1 := blk_frozen BK2.out 1
       have hfz124_2 := blk_frozen BK2.out 2
       have hnb125 := NB274_262.out
       have hnc125 := NB262_274.out
       have hnb126 := NB274_263.out
       have hnc126 := NB263_274.out
       have hnb127 := NB274_275.out
       have hnc127 := NB275_274.out
       have hcz128_0 : wc.cell? ⟨gb3, 0, none⟩ = some (.int .i64 t267) := (blk_cell BK3.out 0).trans rfl
       have hcz128_1 : wc.cell? ⟨gb3, 1, none⟩ = some (.int .i64 t268) := (blk_cell BK3.out 1).trans rfl
       have hcz128_2 : wc.cell? ⟨gb3, 2, none⟩ = some (.bool true) := (blk_cell BK3.out 2).trans rfl
       have hfz128_0 := blk_frozen BK3.out 0
       have hfz128_1 := blk_frozen BK3.out 1
       have hfz128_2 := blk_frozen BK3.out 2
       have hnb129 := NB275_262.out
       have hnc129 := NB262_275.out
       have hnb130 := NB275_263.out
       have hnc130 := NB263_275.out
       have hcz131_0 : wc.cell? ⟨gb4, 0, none⟩ = some (.int .i64 t270) := (blk_cell BK4.out 0).trans rfl
       have hcz131_1 : wc.cell? ⟨gb4, 1, none⟩ = some (.int .i64 t271) := (blk_cell BK4.out 1).trans rfl
       have hcz131_2 : wc.cell? ⟨gb4, 2, none⟩ = some (.bool true) := (blk_cell BK4.out 2).trans rfl
       have hfz131_0 := blk_frozen BK4.out 0
       have hfz131_1 := blk_frozen BK4.out 1
       have hfz131_2 := blk_frozen BK4.out 2
       go_wp2_with (first | (go_at_call 12; (with_reducible refine (coupletlaw04_awake.calls kj5  t278 _ A119.out).mono ?_); rintro e w132 ⟨rfl, hb⟩; have n0_ := Aside0.mk (blk_below (g := gb0) (o := .cells #[.int .i64 a0_0, .int .i64 a0_1, .bool a0_2] 23 (0, 0)) (by (with_reducible repeat first | apply blk_drewN | apply blk_drew | apply blk_alloc); exact BK0.out) hb); have n1_ := Aside0.mk (blk_below (g := gb1) (o := .cells #[.int .i64 a1_0, .int .i64 a1_1, .bool a1_2] 23 (0, 0)) (by (with_reducible repeat first | apply blk_drewN | apply blk_drew | apply blk_alloc); exact BK1.out) hb); have n2_ := Aside0.mk (blk_below (g := gb2) (o := .cells #[.int .i64 t264, .int .i64 t265, .bool true] 23 (0, 0)) (by (with_reducible repeat first | apply blk_drewN | apply blk_drew | apply blk_alloc); exact BK2.out) hb); have n3_ := Aside0.mk (blk_below (g := gb3) (o := .cells #[.int .i64 t267, .int .i64 t268, .bool true] 23 (0, 0)) (by (with_reducible repeat first | apply blk_drewN | apply blk_drew | apply blk_alloc); exact BK3.out) hb); have n4_ := Aside0.mk (blk_below (g := gb4) (o := .cells #[.int .i64 t270, .int .i64 t271, .bool true] 23 (0, 0)) (by (with_reducible repeat first | apply blk_drewN | apply blk_drew | apply blk_alloc); exact BK4.out) hb); have n5_ := Aside0.mk (below_step (by repeat (first | (with_reducible first | exact HB.out | apply below_alloc | apply pw_below_drewN | apply below_drew1 | refine below_set ?_ GE0.out | refine below_set ?_ GE1.out | refine below_set ?_ GE2.out | refine below_set ?_ GE3.out | refine below_set ?_ GE4.out) | exact HB.out)) hb); clear BK0; clear BK1; clear BK2; clear BK3; clear BK4; clear HB; have BK0 := n0_; have BK1 := n1_; have BK2 := n2_; have BK3 := n3_; have BK4 := n4_; have HB := n5_; clear n0_ n1_ n2_ n3_ n4_ n5_; (try clear hb); (try clear hb2); (try clear hk); (try clear hi)))
       go_ret
       exact ⟨by first | rfl | (simp [errW_none, errW_some] <;> rfl) | (simp [*, errW_none, errW_some] <;> rfl), by repeat (first | (with_reducible first | exact HB.out | apply below_alloc | apply pw_below_drewN | apply below_drew1 | refine below_set ?_ GE0.out | refine below_set ?_ GE1.out | refine below_set ?_ GE2.out | refine below_set ?_ GE3.out | refine below_set ?_ GE4.out) | exact HB.out)⟩
      ·
       replace c118 := Bool.eq_false_iff.mpr c118
       subst c118
       have H1 : (some false) = some r := by rw [if_neg (show ¬ (false = true) by decide)] at H; exact H
       clear H
       have H := H1
       clear H1
       obtain rfl := Option.some.inj H
       exact absurd hr (by decide)
     ·
      replace c117 := Bool.eq_false_iff.mpr c117
      subst c117
      have H1 : (some false) = some r := by rw [if_neg (show ¬ (false = true) by decide)] at H; exact H
      clear H
      have H := H1
      clear H1
      obtain rfl := Option.some.inj H
      exact absurd hr (by decide)
    ·
     replace c116 := Bool.eq_false_iff.mpr c116
     subst c116
     have H1 : (some false) = some r := by rw [if_neg (show ¬ (false = true) by decide)] at H; exact H
     clear H
     have H := H1
     clear H1
     obtain rfl := Option.some.inj H
     exact absurd hr (by decide)
   ·
    replace c115 := Bool.eq_false_iff.mpr c115
    subst c115
    have H1 : (if t272 = true then ((frac_New.f kj5 (wrap64 (a0_0 * a1_0)) (wrap64 (a0_1 * a1_1))).bind fun bt279 => (j1 kj5 (t272 != bt279.2.2) a0_0 a0_1 a0_2 a1_0 a1_1 a1_2 t264 t265 t266 t267 t268 t269)) else ((coupletlaw04_fine.f kj5 t270 t271 t272).bind fun t282 => (if t282 = true then ((coupletref04_Same.f kj5 (wrap64 (a0_0 * a1_0)) (wrap64 (a0_1 * a1_1)) t270 t271).bind fun t283 => (if t283 = true then ((frac_New.f kj5 (wrap64 (a0_0 * a1_0)) (wrap64 (a0_1 * a1_1))).bind fun bt284 => (j1 kj5 (t272 != bt284.2.2) a0_0 a0_1 a0_2 a1_0 a1_1 a1_2 t264 t265 t266 t267 t268 t269)) else (j1 kj5 true a0_0 a0_1 a0_2 a1_0 a1_1 a1_2 t264 t265 t266 t267 t268 t269))) else (j1 kj5 true a0_0 a0_1 a0_2 a1_0 a1_1 a1_2 t264 t265 t266 t267 t268 t269)))) = some r := by rw [if_neg (show ¬ (false = true) by decide)] at H; exact H
    clear H
    have H := H1
    clear H1
    have HC159 := Aside0.mk H
    clear H
    go_upto_region 4 with (fail)
    go_cut [123] (fun v123 wc => ∃ (kq : Nat) (x123_158 : Bool), v123 = .bool x123_158 ∧ Aside0 (j1 kq x123_158 a0_0 a0_1 a0_2 a1_0 a1_1 a1_2 t264 t265 t266 t267 t268 t269 = some r) ∧ Aside0 (kq ≤ kj5) ∧ Aside0 (wc.heap[gb0]? = some (.cells #[.int .i64 a0_0, .int .i64 a0_1, .bool a0_2] 23 (0, 0))) ∧ Aside0 (wc.heap[gb1]? = some (.cells #[.int .i64 a1_0, .int .i64 a1_1, .bool a1_2] 23 (0, 0))) ∧ Aside0 (wc.heap[gb2]? = some (.cells #[.int .i64 t264, .int .i64 t265, .bool t266] 23 (0, 0))) ∧ Aside0 (wc.heap[gb3]? = some (.cells #[.int .i64 t267, .int .i64 t268, .bool t269] 23 (0, 0))) ∧ Aside0 (wc.heap[gb4]? = some (.cells #[.int .i64 t270, .int .i64 t271, .bool t272] 23 (0, 0))) ∧ Aside0 (Below w.heap.size w wc))
    case first =>
     as_aux_lemma =>
     have H := HC159.out
     clear HC159
     by_cases c160 : t272 = true
     ·
      as_aux_lemma =>
      subst c160
      have H1 : ((frac_New.f kj5 (wrap64 (a0_0 * a1_0)) (wrap64 (a0_1 * a1_1))).bind fun bt279 => (j1 kj5 (true != bt279.2.2) a0_0 a0_1 a0_2 a1_0 a1_1 a1_2 t264 t265 t266 t267 t268 t269)) = some r := by rw [if_pos rfl] at H; exact H
      clear H
      have H := H1
      clear H1
      replace H := Option.bind_eq_some_iff.mp H
      obtain ⟨⟨t279, t280, t281⟩, A1610, H⟩ := H
      replace H : (j1 kj5 (true != t281) a0_0 a0_1 a0_2 a1_0 a1_1 a1_2 t264 t265 t266 t267 t268 t269) = some r := H
      have A161 := Aside0.mk A1610
      clear A1610
      have H' := Aside0.mk H
      clear H
      try go_wp2
      have n0_ := Aside0.mk (blk_drew BK0.out)
      have n1_ := Aside0.mk (blk_drew BK1.out)
      have n2_ := Aside0.mk (blk_drew BK2.out)
      have n3_ := Aside0.mk (blk_drew BK3.out)
      have n4_ := Aside0.mk (blk_drew BK4.out)
      have n5_ := Aside0.mk (below_drew1 HB.out)
      clear BK0
      clear BK1
      clear BK2
      clear BK3
      clear BK4
      clear HB
      have BK0 := n0_
      have BK1 := n1_
      have BK2 := n2_
      have BK3 := n3_
      have BK4 := n4_
      have HB := n5_
      clear n0_ n1_ n2_ n3_ n4_ n5_
      refine start_ (n := 42) (S := fun w' => w'.cell? ⟨gb4, 0, none⟩ = some (.int .i64 t270) ∧ w'.cell? ⟨gb4, 1, none⟩ = some (.int .i64 t271) ∧ w'.cell? ⟨gb4, 2, none⟩ = some (.bool true) ∧ w'.cell? ⟨gb0, 0, none⟩ = some (.int .i64 a0_0) ∧ w'.cell? ⟨gb0, 1, none⟩ = some (.int .i64 a0_1) ∧ w'.cell? ⟨gb0, 2, none⟩ = some (.bool a0_2) ∧ w'.cell? ⟨gb1, 0, none⟩ = some (.int .i64 a1_0) ∧ w'.cell? ⟨gb1, 1, none⟩ = some (.int .i64 a1_1) ∧ w'.cell? ⟨gb1, 2, none⟩ = some (.bool a1_2)) (ds := []) #[O,O,O,O,O,O,O,O,O,O,O,O,O,O,O,O,O,O,O,O,O,O,O,O,O,O,O,O,O,O,O,O,O,O,O,O,O,O,O,O,O,O] (by kernel_rfl) rfl rfl ⟨(blk_cell BK4.out 0).trans rfl, (blk_cell BK4.out 1).trans rfl, (blk_cell BK4.out 2).trans rfl, (blk_cell BK0.out 0).trans rfl, (blk_cell BK0.out 1).trans rfl, (blk_cell BK0.out 2).trans rfl, (blk_cell BK1.out 0).trans rfl, (blk_cell BK1.out 1).trans rfl, (blk_cell BK1.out 2).trans rfl⟩ (fun hHeld => ?_); refine with_tabW tab4 bits4 (fun HT_ HW_ => ?_)
      generalize wc.drew = w162 at BK0 BK1 BK2 BK3 BK4 HB hHeld ⊢
      refine pure_ (i := 0) (N := some 82) (v := ?_) (a' := ?_) #[I,O,O,O,O,O,O,O,O,O,O,O,O,O,O,O,O,O,O,O,O,O,O,O,O,O,O,O,O,O,O,O,O,O,O,O,O,O,O,O,O,O] rfl rfl (any_of HT_.out (by kernel_rfl)) (fun _ _ _ h => h) (Or.inl ⟨by rfl, ?_⟩) ?_ ?_
      rotate_left
      ·
       intro w'
       go_simp
       with_reducible rfl
      rotate_left
      ·
       simp only [Act.put, List.setIfInBounds_toArray, List.set_cons_zero, List.set_cons_succ, i64_w]
       rfl
      refine take_ (i := 1) (N := some 83) (v := ?_) (a' := ?_) #[I,I,O,O,O,O,O,O,O,O,O,O,O,O,O,O,O,O,O,O,O,O,O,O,O,O,O,O,O,O,O,O,O,O,O,O,O,O,O,O,O,O] rfl rfl (take_ofW HT_.out HW_.out (by kernel_rfl)) (fun _ _ _ h => h) (Or.inl ⟨by rfl, ?_⟩) hHeld ?_ ?_
      rotate_left
      ·
       rintro w' ⟨s0, s1, s2, s3, s4, s5, s6, s7, s8⟩
       go_simp
       with_reducible rfl
      rotate_left
      ·
       simp only [Act.put, List.setIfInBounds_toArray, List.set_cons_zero, List.set_cons_succ, i64_w]
       rfl
      refine pure_ (i := 2) (N := some 84) (v := ?_) (a' := ?_) #[I,I,I,O,O,O,O,O,O,O,O,O,O,O,O,O,O,O,O,O,O,O,O,O,O,O,O,O,O,O,O,O,O,O,O,O,O,O,O,O,O,O] rfl rfl (any_of HT_.out (by kernel_rfl)) (fun _ _ _ h => h) (Or.inl ⟨by rfl, ?_⟩) ?_ ?_
      rotate_left
      ·
       intro w'
       go_simp
       with_reducible rfl
      rotate_left
      ·
       simp only [Act.put, List.setIfInBounds_toArray, List.set_cons_zero, List.set_cons_succ, i64_w]
       rfl
      refine pure_ (i := 3) (N := some 85) (v := ?_) (a' := ?_) #[I,I,I,I,O,O,O,O,O,O,O,O,O,O,O,O,O,O,O,O,O,O,O,O,O,O,O,O,O,O,O,O,O,O,O,O,O,O,O,O,O,O] rfl rfl (any_of HT_.out (by kernel_rfl)) (fun _ _ _ h => h) (Or.inl ⟨by rfl, ?_⟩) ?_ ?_
      rotate_left
      ·
       intro w'
       go_simp
       with_reducible rfl
      rotate_left
      ·
       simp only [Act.put, List.setIfInBounds_toArray, List.set_cons_zero, List.set_cons_succ, i64_w]
       rfl
      refine pure_ (i := 4) (N := some 86) (v := undef) (a' := ?_) #[I,I,I,I,I,O,O,O,O,O,O,O,O,O,O,O,O,O,O,O,O,O,O,O,O,O,O,O,O,O,O,O,O,O,O,O,O,O,O,O,O,O] rfl rfl (any_of HT_.out (by kernel_rfl)) (fun _ _ _ h => h) (Or.inr ⟨by rfl, rfl⟩) ?_ ?_
      rotate_left
      ·
       simp only [Act.put, List.setIfInBounds_toArray, List.set_cons_zero, List.set_cons_succ, i64_w]
       rfl
      refine pure_ (i := 5) (N := some 87) (v := undef) (a' := ?_) #[I,I,I,I,I,I,O,O,O,O,O,O,O,O,O,O,O,O,O,O,O,O,O,O,O,O,O,O,O,O,O,O,O,O,O,O,O,O,O,O,O,O] rfl rfl (any_of HT_.out (by kernel_rfl)) (fun _ _ _ h => h) (Or.inr ⟨by rfl, rfl⟩) ?_ ?_
      rotate_left
      ·
       simp only [Act.put, List.setIfInBounds_toArray, List.set_cons_zero, List.set_cons_succ, i64_w]
       rfl
      refine pure_ (i := 6) (N := some 88) (v := undef) (a' := ?_) #[I,I,I,I,I,I,I,O,O,O,O,O,O,O,O,O,O,O,O,O,O,O,O,O,O,O,O,O,O,O,O,O,O,O,O,O,O,O,O,O,O,O] rfl rfl (any_of HT_.out (by kernel_rfl)) (fun _ _ _ h => h) (Or.inr ⟨by rfl, rfl⟩) ?_ ?_
      rotate_left
      ·
       simp only [Act.put, List.setIfInBounds_toArray, List.set_cons_zero, List.set_cons_succ, i64_w]
       rfl
      refine pure_ (i := 7) (N := some 89) (v := undef) (a' := ?_) #[I,I,I,I,I,I,I,I,O,O,O,O,O,O,O,O,O,O,O,O,O,O,O,O,O,O,O,O,O,O,O,O,O,O,O,O,O,O,O,O,O,O] rfl rfl (any_of HT_.out (by kernel_rfl)) (fun _ _ _ h => h) (Or.inr ⟨by rfl, rfl⟩) ?_ ?_
      rotate_left
      ·
       simp only [Act.put, List.setIfInBounds_toArray, List.set_cons_zero, List.set_cons_succ, i64_w]
       rfl
      refine pure_ (i := 8) (N := some 90) (v := undef) (a' := ?_) #[I,I,I,I,I,I,I,I,I,O,O,O,O,O,O,O,O,O,O,O,O,O,O,O,O,O,O,O,O,O,O,O,O,O,O,O,O,O,O,O,O,O] rfl rfl (any_of HT_.out (by kernel_rfl)) (fun _ _ _ h => h) (Or.inr ⟨by rfl, rfl⟩) ?_ ?_
      rotate_left
      ·
       simp only [Act.put, List.setIfInBounds_toArray, List.set_cons_zero, List.set_cons_succ, i64_w]
       rfl
      refine pure_ (i := 9) (N := some 91) (v := undef) (a' := ?_) #[I,I,I,I,I,I,I,I,I,I,O,O,O,O,O,O,O,O,O,O,O,O,O,O,O,O,O,O,O,O,O,O,O,O,O,O,O,O,O,O,O,O] rfl rfl (any_of HT_.out (by kernel_rfl)) (fun _ _ _ h => h) (Or.inr ⟨by rfl, rfl⟩) ?_ ?_
      rotate_left
      ·
       simp only [Act.put, List.setIfInBounds_toArray, List.set_cons_zero, List.set_cons_succ, i64_w]
       rfl
      refine pure_ (i := 10) (N := some 92) (v := undef) (a' := ?_) #[I,I,I,I,I,I,I,I,I,I,I,O,O,O,O,O,O,O,O,O,O,O,O,O,O,O,O,O,O,O,O,O,O,O,O,O,O,O,O,O,O,O] rfl rfl (any_of HT_.out (by kernel_rfl)) (fun _ _ _ h => h) (Or.inr ⟨by rfl, rfl⟩) ?_ ?_
      rotate_left
      ·
       simp only [Act.put, List.setIfInBounds_toArray, List.set_cons_zero, List.set_cons_succ, i64_w]
       rfl
      refine pure_ (i := 11) (N := some 93) (v := undef) (a' := ?_) #[I,I,I,I,I,I,I,I,I,I,I,I,O,O,O,O,O,O,O,O,O,O,O,O,O,O,O,O,O,O,O,O,O,O,O,O,O,O,O,O,O,O] rfl rfl (any_of HT_.out (by kernel_rfl)) (fun _ _ _ h => h) (Or.inr ⟨by rfl, rfl⟩) ?_ ?_
      rotate_left
      ·
       simp only [Act.put, List.setIfInBounds_toArray, List.set_cons_zero, List.set_cons_succ, i64_w]
       rfl
      refine pure_ (i := 12) (N := some 94) (v := undef) (a' := ?_) #[I,I,I,I,I,I,I,I,I,I,I,I,I,O,O,O,O,O,O,O,O,O,O,O,O,O,O,O,O,O,O,O,O,O,O,O,O,O,O,O,O,O] rfl rfl (any_of HT_.out (by kernel_rfl)) (fun _ _ _ h => h) (Or.inr ⟨by rfl, rfl⟩) ?_ ?_
      rotate_left
      ·
       simp only [Act.put, List.setIfInBounds_toArray, List.set_cons_zero, List.set_cons_succ, i64_w]
       rfl
      refine pure_ (i := 13) (N := some 95) (v := undef) (a' := ?_) #[I,I,I,I,I,I,I,I,I,I,I,I,I,I,O,O,O,O,O,O,O,O,O,O,O,O,O,O,O,O,O,O,O,O,O,O,O,O,O,O,O,O] rfl rfl (any_of HT_.out (by kernel_rfl)) (fun _ _ _ h => h) (Or.inr ⟨by rfl, rfl⟩) ?_ ?_
      rotate_left
      ·
       simp only [Act.put, List.setIfInBounds_toArray, List.set_cons_zero, List.set_cons_succ, i64_w]
       rfl
      refine pure_ (i := 14) (N := some 96) (v := undef) (a' := ?_) #[I,I,I,I,I,I,I,I,I,I,I,I,I,I,I,O,O,O,O,O,O,O,O,O,O,O,O,O,O,O,O,O,O,O,O,O,O,O,O,O,O,O] rfl rfl (any_of HT_.out (by kernel_rfl)) (fun _ _ _ h => h) (Or.inr ⟨by rfl, rfl⟩) ?_ ?_
      rotate_left
      ·
       simp only [Act.put, List.setIfInBounds_toArray, List.set_cons_zero, List.set_cons_succ, i64_w]
       rfl
      refine pure_ (i := 15) (N := some 97) (v := undef) (a' := ?_) #[I,I,I,I,I,I,I,I,I,I,I,I,I,I,I,I,O,O,O,O,O,O,O,O,O,O,O,O,O,O,O,O,O,O,O,O,O,O,O,O,O,O] rfl rfl (any_of HT_.out (by kernel_rfl)) (fun _ _ _ h => h) (Or.inr ⟨by rfl, rfl⟩) ?_ ?_
      rotate_left
      ·
       simp only [Act.put, List.setIfInBounds_toArray, List.set_cons_zero, List.set_cons_succ, i64_w]
       rfl
      refine pure_ (i := 16) (N := some 98) (v := undef) (a' := ?_) #[I,I,I,I,I,I,I,I,I,I,I,I,I,I,I,I,I,O,O,O,O,O,O,O,O,O,O,O,O,O,O,O,O,O,O,O,O,O,O,O,O,O] rfl rfl (any_of HT_.out (by kernel_rfl)) (fun _ _ _ h => h) (Or.inr ⟨by rfl, rfl⟩) ?_ ?_
      rotate_left
      ·
       simp only [Act.put, List.setIfInBounds_toArray, List.set_cons_zero, List.set_cons_succ, i64_w]
       rfl
      refine pure_ (i := 17) (N := some 99) (v := undef) (a' := ?_) #[I,I,I,I,I,I,I,I,I,I,I,I,I,I,I,I,I,I,O,O,O,O,O,O,O,O,O,O,O,O,O,O,O,O,O,O,O,O,O,O,O,O] rfl rfl (any_of HT_.out (by kernel_rfl)) (fun _ _ _ h => h) (Or.inr ⟨by rfl, rfl⟩) ?_ ?_
      rotate_left
      ·
       simp only [Act.put, List.setIfInBounds_toArray, List.set_cons_zero, List.set_cons_succ, i64_w]
       rfl
      refine pure_ (i := 18) (N := some 100) (v := undef) (a' := ?_) #[I,I,I,I,I,I,I,I,I,I,I,I,I,I,I,I,I,I,I,O,O,O,O,O,O,O,O,O,O,O,O,O,O,O,O,O,O,O,O,O,O,O] rfl rfl (any_of HT_.out (by kernel_rfl)) (fun _ _ _ h => h) (Or.inr ⟨by rfl, rfl⟩) ?_ ?_
      rotate_left
      ·
       simp only [Act.put, List.setIfInBounds_toArray, List.set_cons_zero, List.set_cons_succ, i64_w]
       rfl
      refine pure_ (i := 19) (N := some 101) (v := undef) (a' := ?_) #[I,I,I,I,I,I,I,I,I,I,I,I,I,I,I,I,I,I,I,I,O,O,O,O,O,O,O,O,O,O,O,O,O,O,O,O,O,O,O,O,O,O] rfl rfl (any_of HT_.out (by kernel_rfl)) (fun _ _ _ h => h) (Or.inr ⟨by rfl, rfl⟩) ?_ ?_
      rotate_left
      ·
       simp only [Act.put, List.setIfInBounds_toArray, List.set_cons_zero, List.set_cons_succ, i64_w]
       rfl
      refine pure_ (i := 20) (N := some 102) (v := undef) (a' := ?_) #[I,I,I,I,I,I,I,I,I,I,I,I,I,I,I,I,I,I,I,I,I,O,O,O,O,O,O,O,O,O,O,O,O,O,O,O,O,O,O,O,O,O] rfl rfl (any_of HT_.out (by kernel_rfl)) (fun _ _ _ h => h) (Or.inr ⟨by rfl, rfl⟩) ?_ ?_
      rotate_left
      ·
       simp only [Act.put, List.setIfInBounds_toArray, List.set_cons_zero, List.set_cons_succ, i64_w]
       rfl
      refine pure_ (i := 21) (N := some 103) (v := undef) (a' := ?_) #[I,I,I,I,I,I,I,I,I,I,I,I,I,I,I,I,I,I,I,I,I,I,O,O,O,O,O,O,O,O,O,O,O,O,O,O,O,O,O,O,O,O] rfl rfl (any_of HT_.out (by kernel_rfl)) (fun _ _ _ h => h) (Or.inr ⟨by rfl, rfl⟩) ?_ ?_
      rotate_left
      ·
       simp only [Act.put, List.setIfInBounds_toArray, List.set_cons_zero, List.set_cons_succ, i64_w]
       rfl
      refine pure_ (i := 22) (N := some 104) (v := undef) (a' := ?_) #[I,I,I,I,I,I,I,I,I,I,I,I,I,I,I,I,I,I,I,I,I,I,I,O,O,O,O,O,O,O,O,O,O,O,O,O,O,O,O,O,O,O] rfl rfl (any_of HT_.out (by kernel_rfl)) (fun _ _ _ h => h) (Or.inr ⟨by rfl, rfl⟩) ?_ ?_
      rotate_left
      ·
       simp only [Act.put, List.setIfInBounds_toArray, List.set_cons_zero, List.set_cons_succ, i64_w]
       rfl
      refine pure_ (i := 23) (N := some 105) (v := undef) (a' := ?_) #[I,I,I,I,I,I,I,I,I,I,I,I,I,I,I,I,I,I,I,I,I,I,I,I,O,O,O,O,O,O,O,O,O,O,O,O,O,O,O,O,O,O] rfl rfl (any_of HT_.out (by kernel_rfl)) (fun _ _ _ h => h) (Or.inr ⟨by rfl, rfl⟩) ?_ ?_
      rotate_left
      ·
       simp only [Act.put, List.setIfInBounds_toArray, List.set_cons_zero, List.set_cons_succ, i64_w]
       rfl
      refine pure_ (i := 24) (N := some 106) (v := ?_) (a' := ?_) #[I,I,I,I,I,I,I,I,I,I,I,I,I,I,I,I,I,I,I,I,I,I,I,I,I,O,O,O,O,O,O,O,O,O,O,O,O,O,O,O,O,O] rfl rfl (any_of HT_.out (by kernel_rfl)) (fun _ _ _ h => h) (Or.inl ⟨by rfl, ?_⟩) ?_ ?_
      rotate_left
      ·
       intro w'
       go_simp
       with_reducible rfl
      rotate_left
      ·
       simp only [Act.put, List.setIfInBounds_toArray, List.set_cons_zero, List.set_cons_succ, i64_w]
       rfl
      refine pure_ (i := 25) (N := some 107) (v := ?_) (a' := ?_) #[I,I,I,I,I,I,I,I,I,I,I,I,I,I,I,I,I,I,I,I,I,I,I,I,I,I,O,O,O,O,O,O,O,O,O,O,O,O,O,O,O,O] rfl rfl (any_of HT_.out (by kernel_rfl)) (fun _ _ _ h => h) (Or.inl ⟨by rfl, ?_⟩) ?_ ?_
      rotate_left
      ·
       intro w'
       go_simp
       with_reducible rfl
      rotate_left
      ·
       simp only [Act.put, List.setIfInBounds_toArray, List.set_cons_zero, List.set_cons_succ, i64_w]
       rfl
      refine pure_ (i := 26) (N := some 108) (v := ?_) (a' := ?_) #[I,I,I,I,I,I,I,I,I,I,I,I,I,I,I,I,I,I,I,I,I,I,I,I,I,I,I,O,O,O,O,O,O,O,O,O,O,O,O,O,O,O] rfl rfl (any_of HT_.out (by kernel_rfl)) (fun _ _ _ h => h) (Or.inl ⟨by rfl, ?_⟩) ?_ ?_
      rotate_left
      ·
       intro w'
       go_simp
       with_reducible rfl
      rotate_left
      ·
       simp only [Act.put, List.setIfInBounds_toArray, List.set_cons_zero, List.set_cons_succ, i64_w]
       rfl
      refine pure_ (i := 28) (N := some 110) (v := ?_) (a' := ?_) #[I,I,I,I,I,I,I,I,I,I,I,I,I,I,I,I,I,I,I,I,I,I,I,I,I,I,I,O,I,O,O,O,O,O,O,O,O,O,O,O,O,O] rfl rfl (any_of HT_.out (by kernel_rfl)) (fun _ _ _ h => h) (Or.inl ⟨by rfl, ?_⟩) ?_ ?_
      rotate_left
      ·
       intro w'
       go_simp
       with_reducible rfl
      rotate_left
      ·
       simp only [Act.put, List.setIfInBounds_toArray, List.set_cons_zero, List.set_cons_succ, i64_w]
       rfl
      refine pure_ (i := 30) (N := some 112) (v := ?_) (a' := ?_) #[I,I,I,I,I,I,I,I,I,I,I,I,I,I,I,I,I,I,I,I,I,I,I,I,I,I,I,O,I,O,I,O,O,O,O,O,O,O,O,O,O,O] rfl rfl (any_of HT_.out (by kernel_rfl)) (fun _ _ _ h => h) (Or.inl ⟨by rfl, ?_⟩) ?_ ?_
      rotate_left
      ·
       intro w'
       go_simp
       with_reducible rfl
      rotate_left
      ·
       simp only [Act.put, List.setIfInBounds_toArray, List.set_cons_zero, List.set_cons_succ, i64_w]
       rfl
      refine pure_ (i := 33) (N := some 115) (v := ?_) (a' := ?_) #[I,I,I,I,I,I,I,I,I,I,I,I,I,I,I,I,I,I,I,I,I,I,I,I,I,I,I,O,I,O,I,O,O,I,O,O,O,O,O,O,O,O] rfl rfl (any_of HT_.out (by kernel_rfl)) (fun _ _ _ h => h) (Or.inl ⟨by rfl, ?_⟩) ?_ ?_
      rotate_left
      ·
       intro w'
       go_simp
       with_reducible rfl
      rotate_left
      ·
       simp only [Act.put, List.setIfInBounds_toArray, List.set_cons_zero, List.set_cons_succ, i64_w]
       rfl
      refine pure_ (i := 35) (N := some 117) (v := ?_) (a' := ?_) #[I,I,I,I,I,I,I,I,I,I,I,I,I,I,I,I,I,I,I,I,I,I,I,I,I,I,I,O,I,O,I,O,O,I,O,I,O,O,O,O,O,O] rfl rfl (any_of HT_.out (by kernel_rfl)) (fun _ _ _ h => h) (Or.inl ⟨by rfl, ?_⟩) ?_ ?_
      rotate_left
      ·
       intro w'
       go_simp
       with_reducible rfl
      rotate_left
      ·
       simp only [Act.put, List.setIfInBounds_toArray, List.set_cons_zero, List.set_cons_succ, i64_w]
       rfl
      refine take_ (i := 27) (N := some 109) (v := ?_) (a' := ?_) #[I,I,I,I,I,I,I,I,I,I,I,I,I,I,I,I,I,I,I,I,I,I,I,I,I,I,I,I,I,O,I,O,O,I,O,I,O,O,O,O,O,O] rfl rfl (take_ofW HT_.out HW_.out (by kernel_rfl)) (fun _ _ _ h => h) (Or.inl ⟨by rfl, ?_⟩) hHeld ?_ ?_
      rotate_left
      ·
       rintro w' ⟨s0, s1, s2, s3, s4, s5, s6, s7, s8⟩
       go_simp
       with_reducible rfl
      rotate_left
      ·
       simp only [Act.put, List.setIfInBounds_toArray, List.set_cons_zero, List.set_cons_succ, i64_w]
       rfl
      refine take_ (i := 29) (N := some 111) (v := ?_) (a' := ?_) #[I,I,I,I,I,I,I,I,I,I,I,I,I,I,I,I,I,I,I,I,I,I,I,I,I,I,I,I,I,I,I,O,O,I,O,I,O,O,O,O,O,O] rfl rfl (take_ofW HT_.out HW_.out (by kernel_rfl)) (fun _ _ _ h => h) (Or.inl ⟨by rfl, ?_⟩) hHeld ?_ ?_
      rotate_left
      ·
       rintro w' ⟨s0, s1, s2, s3, s4, s5, s6, s7, s8⟩
       go_simp
       with_reducible rfl
      rotate_left
      ·
       simp only [Act.put, List.setIfInBounds_toArray, List.set_cons_zero, List.set_cons_succ, i64_w]
       rfl
      refine take_ (i := 31) (N := some 113) (v := ?_) (a' := ?_) #[I,I,I,I,I,I,I,I,I,I,I,I,I,I,I,I,I,I,I,I,I,I,I,I,I,I,I,I,I,I,I,I,O,I,O,I,O,O,O,O,O,O] rfl rfl (take_ofW HT_.out HW_.out (by kernel_rfl)) (fun _ _ _ h => h) (Or.inl ⟨by rfl, ?_⟩) hHeld ?_ ?_
      rotate_left
      ·
       rintro w' ⟨s0, s1, s2, s3, s4, s5, s6, s7, s8⟩
       go_simp
       with_reducible rfl
      rotate_left
      ·
       simp only [Act.put, List.setIfInBounds_toArray, List.set_cons_zero, List.set_cons_succ, i64_w]
       rfl
      refine pure_ (i := 32) (N := some 114) (v := ?_) (a' := ?_) #[I,I,I,I,I,I,I,I,I,I,I,I,I,I,I,I,I,I,I,I,I,I,I,I,I,I,I,I,I,I,I,I,I,I,O,I,O,O,O,O,O,O] rfl rfl (any_of HT_.out (by kernel_rfl)) (fun _ _ _ h => h) (Or.inl ⟨by rfl, ?_⟩) ?_ ?_
      rotate_left
      ·
       intro w'
       go_simp
       with_reducible rfl
      rotate_left
      ·
       simp only [Act.put, List.setIfInBounds_toArray, List.set_cons_zero, List.set_cons_succ, i64_w]
       rfl
      refine take_ (i := 34) (N := some 116) (v := ?_) (a' := ?_) #[I,I,I,I,I,I,I,I,I,I,I,I,I,I,I,I,I,I,I,I,I,I,I,I,I,I,I,I,I,I,I,I,I,I,I,I,O,O,O,O,O,O] rfl rfl (take_ofW HT_.out HW_.out (by kernel_rfl)) (fun _ _ _ h => h) (Or.inl ⟨by rfl, ?_⟩) hHeld ?_ ?_
      rotate_left
      ·
       rintro w' ⟨s0, s1, s2, s3, s4, s5, s6, s7, s8⟩
       go_simp
       with_reducible rfl
      rotate_left
      ·
       simp only [Act.put, List.setIfInBounds_toArray, List.set_cons_zero, List.set_cons_succ, i64_w]
       rfl
      refine take_ (i := 36) (N := some 118) (v := ?_) (a' := ?_) #[I,I,I,I,I,I,I,I,I,I,I,I,I,I,I,I,I,I,I,I,I,I,I,I,I,I,I,I,I,I,I,I,I,I,I,I,I,O,O,O,O,O] rfl rfl (take_ofW HT_.out HW_.out (by kernel_rfl)) (fun _ _ _ h => h) (Or.inl ⟨by rfl, ?_⟩) hHeld ?_ ?_
      rotate_left
      ·
       rintro w' ⟨s0, s1, s2, s3, s4, s5, s6, s7, s8⟩
       go_simp
       with_reducible rfl
      rotate_left
      ·
       simp only [Act.put, List.setIfInBounds_toArray, List.set_cons_zero, List.set_cons_succ, i64_w]
       rfl
      refine pure_ (i := 37) (N := some 119) (v := ?_) (a' := ?_) #[I,I,I,I,I,I,I,I,I,I,I,I,I,I,I,I,I,I,I,I,I,I,I,I,I,I,I,I,I,I,I,I,I,I,I,I,I,I,O,O,O,O] rfl rfl (any_of HT_.out (by kernel_rfl)) (fun _ _ _ h => h) (Or.inl ⟨by rfl, ?_⟩) ?_ ?_
      rotate_left
      ·
       intro w'
       go_simp
       with_reducible rfl
      rotate_left
      ·
       simp only [Act.put, List.setIfInBounds_toArray, List.set_cons_zero, List.set_cons_succ, i64_w]
       rfl
      refine one_ (i := 38) (N := some 120) #[I,I,I,I,I,I,I,I,I,I,I,I,I,I,I,I,I,I,I,I,I,I,I,I,I,I,I,I,I,I,I,I,I,I,I,I,I,I,I,O,O,O] rfl rfl (one_of HT_.out (by kernel_rfl)) (by decide) (fun K hK => ?_)
      refine goes_ Try.func10 (by kernel_rfl) rfl #[.int .i64 (wrap64 (a0_0 * a1_0)), .int .i64 (wrap64 (a0_1 * a1_1))] (by rfl) rfl rfl (by (try simp only [List.map_toArray, List.map_cons, List.map_nil]); first | done | rfl | (simp only [List.length_drop, List.length_take]; rfl)) ?_
      with_reducible refine (frac_New.calls kj5 (wrap64 (a0_0 * a1_0)) (wrap64 (a0_1 * a1_1)) t279 t280 t281 _ A161.out).mono ?_
      rintro e w163 ⟨rfl, hb⟩
      refine ⟨_, rfl, ?_⟩
      have n0_ := Aside0.mk (blk_below (g := gb0) (o := .cells #[.int .i64 a0_0, .int .i64 a0_1, .bool a0_2] 23 (0, 0)) (by (with_reducible repeat first | apply blk_drewN | apply blk_drew | apply blk_alloc); exact BK0.out) hb)
      have n1_ := Aside0.mk (blk_below (g := gb1) (o := .cells #[.int .i64 a1_0, .int .i64 a1_1, .bool a1_2] 23 (0, 0)) (by (with_reducible repeat first | apply blk_drewN | apply blk_drew | apply blk_alloc); exact BK1.out) hb)
      have n2_ := Aside0.mk (blk_below (g := gb2) (o := .cells #[.int .i64 t264, .int .i64 t265, .bool t266] 23 (0, 0)) (by (with_reducible repeat first | apply blk_drewN | apply blk_drew | apply blk_alloc); exact BK2.out) hb)
      have n3_ := Aside0.mk (blk_below (g := gb3) (o := .cells #[.int .i64 t267, .int .i64 t268, .bool t269] 23 (0, 0)) (by (with_reducible repeat first | apply blk_drewN | apply blk_drew | apply blk_alloc); exact BK3.out) hb)
      have n4_ := Aside0.mk (blk_below (g := gb4) (o := .cells #[.int .i64 t270, .int .i64 t271, .bool true] 23 (0, 0)) (by (with_reducible repeat first | apply blk_drewN | apply blk_drew | apply blk_alloc); exact BK4.out) hb)
      have n5_ := Aside0.mk (below_step (by repeat (first | (with_reducible first | exact HB.out | apply below_alloc | apply pw_below_drewN | apply below_drew1 | refine below_set ?_ GE0.out | refine below_set ?_ GE1.out | refine below_set ?_ GE2.out | refine below_set ?_ GE3.out | refine below_set ?_ GE4.out) | exact HB.out)) hb)
      clear BK0
      clear BK1
      clear BK2
      clear BK3
      clear BK4
      clear HB
      have BK0 := n0_
      have BK1 := n1_
      have BK2 := n2_
      have BK3 := n3_
      have BK4 := n4_
      have HB := n5_
      clear n0_ n1_ n2_ n3_ n4_ n5_
      (try clear hb)
      (try clear hb2)
      (try clear hk)
      (try clear hi)
      refine hK.out _ _ ⟨(blk_cell BK4.out 0).trans rfl, (blk_cell BK4.out 1).trans rfl, (blk_cell BK4.out 2).trans rfl, (blk_cell BK0.out 0).trans rfl, (blk_cell BK0.out 1).trans rfl, (blk_cell BK0.out 2).trans rfl, (blk_cell BK1.out 0).trans rfl, (blk_cell BK1.out 1).trans rfl, (blk_cell BK1.out 2).trans rfl⟩ (fun hHeld => ?_)
      clear hK K
      refine norm_ (a' := ?_) ?_ ?_
      rotate_left
      ·
       show Act.put _ (some 120) _ = _
       simp only [Act.put, List.setIfInBounds_toArray, List.set_cons_zero, List.set_cons_succ, i64_w]
       rfl
      refine pure_ (i := 39) (N := some 121) (v := ?_) (a' := ?_) #[I,I,I,I,I,I,I,I,I,I,I,I,I,I,I,I,I,I,I,I,I,I,I,I,I,I,I,I,I,I,I,I,I,I,I,I,I,I,I,I,O,O] rfl rfl (any_of HT_.out (by kernel_rfl)) (fun _ _ _ h => h) (Or.inl ⟨by rfl, ?_⟩) ?_ ?_
      rotate_left
      ·
       intro w'
       go_simp
       with_reducible rfl
      rotate_left
      ·
       simp only [Act.put, List.setIfInBounds_toArray, List.set_cons_zero, List.set_cons_succ, i64_w]
       rfl
      refine pure_ (i := 40) (N := some 122) (v := ?_) (a' := ?_) #[I,I,I,I,I,I,I,I,I,I,I,I,I,I,I,I,I,I,I,I,I,I,I,I,I,I,I,I,I,I,I,I,I,I,I,I,I,I,I,I,I,O] rfl rfl (any_of HT_.out (by kernel_rfl)) (fun _ _ _ h => h) (Or.inl ⟨by rfl, ?_⟩) ?_ ?_
      rotate_left
      ·
       intro w'
       go_simp
       with_reducible rfl
      rotate_left
      ·
       simp only [Act.put, List.setIfInBounds_toArray, List.set_cons_zero, List.set_cons_succ, i64_w]
       rfl
      refine pure_ (i := 41) (N := some 123) (v := ?_) (a' := ?_) #[I,I,I,I,I,I,I,I,I,I,I,I,I,I,I,I,I,I,I,I,I,I,I,I,I,I,I,I,I,I,I,I,I,I,I,I,I,I,I,I,I,I] rfl rfl (any_of HT_.out (by kernel_rfl)) (fun _ _ _ h => h) (Or.inl ⟨by rfl, ?_⟩) ?_ ?_
      rotate_left
      ·
       intro w'
       go_simp
       with_reducible rfl
      rotate_left
      ·
       simp only [Act.put, List.setIfInBounds_toArray, List.set_cons_zero, List.set_cons_succ, i64_w]
       rfl
      refine done_ (done_of HT_.out (by kernel_rfl)) ?_
      try go_wp2
      go_meet
      case rel => exact ⟨_, ((true != t281)), (by first | rfl | (simp; done) | (simp [*]; done)), H', ⟨by have := HJ5.out; first | omega | exact Nat.le_refl _⟩, ⟨by (with_reducible repeat first | apply blk_drewN | apply blk_drew | apply blk_alloc); exact BK0.out⟩, ⟨by (with_reducible repeat first | apply blk_drewN | apply blk_drew | apply blk_alloc); exact BK1.out⟩, ⟨by (with_reducible repeat first | apply blk_drewN | apply blk_drew | apply blk_alloc); exact BK2.out⟩, ⟨by (with_reducible repeat first | apply blk_drewN | apply blk_drew | apply blk_alloc); exact BK3.out⟩, ⟨by (with_reducible repeat first | apply blk_drewN | apply blk_drew | apply blk_alloc); exact BK4.out⟩, ⟨by repeat (first | (with_reducible first | exact HB.out | apply below_alloc | apply pw_below_drewN | apply below_drew1 | refine below_set ?_ GE0.out | refine below_set ?_ GE1.out | refine below_set ?_ GE2.out | refine below_set ?_ GE3.out | refine below_set ?_ GE4.out) | exact HB.out)⟩⟩
     ·
      as_aux_lemma =>
      replace c160 := Bool.eq_false_iff.mpr c160
      subst c160
      have H1 : ((coupletlaw04_fine.f kj5 t270 t271 false).bind fun t282 => (if t282 = true then ((coupletref04_Same.f kj5 (wrap64 (a0_0 * a1_0)) (wrap64 (a0_1 * a1_1)) t270 t271).bind fun t283 => (if t283 = true then ((frac_New.f kj5 (wrap64 (a0_0 * a1_0)) (wrap64 (a0_1 * a1_1))).bind fun bt284 => (j1 kj5 (false != bt284.2.2) a0_0 a0_1 a0_2 a1_0 a1_1 a1_2 t264 t265 t266 t267 t268 t269)) else (j1 kj5 true a0_0 a0_1 a0_2 a1_0 a1_1 a1_2 t264 t265 t266 t267 t268 t269))) else (j1 kj5 true a0_0 a0_1 a0_2 a1_0 a1_1 a1_2 t264 t265 t266 t267 t268 t269))) = some r := by rw [if_neg (show ¬ (false = true) by decide)] at H; exact H
      clear H
      have H := H1
      clear H1
      replace H := Option.bind_eq_some_iff.mp H
      obtain ⟨t282, A1640, H⟩ := H
      try dsimp only at H
      have A164 := Aside0.mk A1640
      clear A1640
      by_cases c165 : t282 = true
      ·
       as_aux_lemma =>
       subst c165
       have H1 : ((coupletref04_Same.f kj5 (wrap64 (a0_0 * a1_0)) (wrap64 (a0_1 * a1_1)) t270 t271).bind fun t283 => (if t283 = true then ((frac_New.f kj5 (wrap64 (a0_0 * a1_0)) (wrap64 (a0_1 * a1_1))).bind fun bt284 => (j1 kj5 (false != bt284.2.2) a0_0 a0_1 a0_2 a1_0 a1_1 a1_2 t264 t265 t266 t267 t268 t269)) else (j1 kj5 true a0_0 a0_1 a0_2 a1_0 a1_1 a1_2 t264 t265 t266 t267 t268 t269))) = some r := by rw [if_pos rfl] at H; exact H
       clear H
       have H := H1
       clear H1
       replace H := Option.bind_eq_some_iff.mp H
       obtain ⟨t283, A1660, H⟩ := H
       try dsimp only at H
       have A166 := Aside0.mk A1660
       clear A1660
       by_cases c167 : t283 = true
       ·
        as_aux_lemma =>
        subst c167
        have H1 : ((frac_New.f kj5 (wrap64 (a0_0 * a1_0)) (wrap64 (a0_1 * a1_1))).bind fun bt284 => (j1 kj5 (false != bt284.2.2) a0_0 a0_1 a0_2 a1_0 a1_1 a1_2 t264 t265 t266 t267 t268 t269)) = some r := by rw [if_pos rfl] at H; exact H
        clear H
        have H := H1
        clear H1
        replace H := Option.bind_eq_some_iff.mp H
        obtain ⟨⟨t284, t285, t286⟩, A1680, H⟩ := H
        replace H : (j1 kj5 (false != t286) a0_0 a0_1 a0_2 a1_0 a1_1 a1_2 t264 t265 t266 t267 t268 t269) = some r := H
        have A168 := Aside0.mk A1680
        clear A1680
        have H' := Aside0.mk H
        clear H
        try go_wp2
        have n0_ := Aside0.mk (blk_drew BK0.out)
        have n1_ := Aside0.mk (blk_drew BK1.out)
        have n2_ := Aside0.mk (blk_drew BK2.out)
        have n3_ := Aside0.mk (blk_drew BK3.out)
        have n4_ := Aside0.mk (blk_drew BK4.out)
        have n5_ := Aside0.mk (below_drew1 HB.out)
        clear BK0
        clear BK1
        clear BK2
        clear BK3
        clear BK4
        clear HB
        have BK0 := n0_
        have BK1 := n1_
        have BK2 := n2_
        have BK3 := n3_
        have BK4 := n4_
        have HB := n5_
        clear n0_ n1_ n2_ n3_ n4_ n5_
        refine start_ (n := 42) (S := fun w' => w'.cell? ⟨gb4, 0, none⟩ = some (.int .i64 t270) ∧ w'.cell? ⟨gb4, 1, none⟩ = some (.int .i64 t271) ∧ w'.cell? ⟨gb4, 2, none⟩ = some (.bool false) ∧ w'.cell? ⟨gb0, 0, none⟩ = some (.int .i64 a0_0) ∧ w'.cell? ⟨gb0, 1, none⟩ = some (.int .i64 a0_1) ∧ w'.cell? ⟨gb0, 2, none⟩ = some (.bool a0_2) ∧ w'.cell? ⟨gb1, 0, none⟩ = some (.int .i64 a1_0) ∧ w'.cell? ⟨gb1, 1, none⟩ = some (.int .i64 a1_1) ∧ w'.cell? ⟨gb1, 2, none⟩ = some (.bool a1_2)) (ds := []) #[O,O,O,O,O,O,O,O,O,O,O,O,O,O,O,O,O,O,O,O,O,O,O,O,O,O,O,O,O,O,O,O,O,O,O,O,O,O,O,O,O,O] (by kernel_rfl) rfl rfl ⟨(blk_cell BK4.out 0).trans rfl, (blk_cell BK4.out 1).trans rfl, (blk_cell BK4.out 2).trans rfl, (blk_cell BK0.out 0).trans rfl, (blk_cell BK0.out 1).trans rfl, (blk_cell BK0.out 2).trans rfl, (blk_cell BK1.out 0).trans rfl, (blk_cell BK1.out 1).trans rfl, (blk_cell BK1.out 2).trans rfl⟩ (fun hHeld => ?_); refine with_tabW tab4 bits4 (fun HT_ HW_ => ?_)
        generalize wc.drew = w169 at BK0 BK1 BK2 BK3 BK4 HB hHeld ⊢
        refine pure_ (i := 0) (N := some 82) (v := ?_) (a' := ?_) #[I,O,O,O,O,O,O,O,O,O,O,O,O,O,O,O,O,O,O,O,O,O,O,O,O,O,O,O,O,O,O,O,O,O,O,O,O,O,O,O,O,O] rfl rfl (any_of HT_.out (by kernel_rfl)) (fun _ _ _ h => h) (Or.inl ⟨by rfl, ?_⟩) ?_ ?_
        rotate_left
        ·
         intro w'
         go_simp
         with_reducible rfl
        rotate_left
        ·
         simp only [Act.put, List.setIfInBounds_toArray, List.set_cons_zero, List.set_cons_succ, i64_w]
         rfl
        refine take_ (i := 1) (N := some 83) (v := ?_) (a' := ?_) #[I,I,O,O,O,O,O,O,O,O,O,O,O,O,O,O,O,O,O,O,O,O,O,O,O,O,O,O,O,O,O,O,O,O,O,O,O,O,O,O,O,O] rfl rfl (take_ofW HT_.out HW_.out (by kernel_rfl)) (fun _ _ _ h => h) (Or.inl ⟨by rfl, ?_⟩) hHeld ?_ ?_
        rotate_left
        ·
         rintro w' ⟨s0, s1, s2, s3, s4, s5, s6, s7, s8⟩
         go_simp
         with_reducible rfl
        rotate_left
        ·
         simp only [Act.put, List.setIfInBounds_toArray, List.set_cons_zero, List.set_cons_succ, i64_w]
         rfl
        refine pure_ (i := 2) (N := some 84) (v := ?_) (a' := ?_) #[I,I,I,O,O,O,O,O,O,O,O,O,O,O,O,O,O,O,O,O,O,O,O,O,O,O,O,O,O,O,O,O,O,O,O,O,O,O,O,O,O,O] rfl rfl (any_of HT_.out (by kernel_rfl)) (fun _ _ _ h => h) (Or.inl ⟨by rfl, ?_⟩) ?_ ?_
        rotate_left
        ·
         intro w'
         go_simp
         with_reducible rfl
        rotate_left
        ·
         simp only [Act.put, List.setIfInBounds_toArray, List.set_cons_zero, List.set_cons_succ, i64_w]
         rfl
        refine pure_ (i := 3) (N := some 85) (v := ?_) (a' := ?_) #[I,I,I,I,O,O,O,O,O,O,O,O,O,O,O,O,O,O,O,O,O,O,O,O,O,O,O,O,O,O,O,O,O,O,O,O,O,O,O,O,O,O] rfl rfl (any_of HT_.out (by kernel_rfl)) (fun _ _ _ h => h) (Or.inl ⟨by rfl, ?_⟩) ?_ ?_
        rotate_left
        ·
         intro w'
         go_simp
         with_reducible rfl
        rotate_left
        ·
         simp only [Act.put, List.setIfInBounds_toArray, List.set_cons_zero, List.set_cons_succ, i64_w]
         rfl
        refine take_ (i := 4) (N := some 86) (v := ?_) (a' := ?_) #[I,I,I,I,I,O,O,O,O,O,O,O,O,O,O,O,O,O,O,O,O,O,O,O,O,O,O,O,O,O,O,O,O,O,O,O,O,O,O,O,O,O] rfl rfl (take_ofW HT_.out HW_.out (by kernel_rfl)) (fun _ _ _ h => h) (Or.inl ⟨by rfl, ?_⟩) hHeld ?_ ?_
        rotate_left
        ·
         rintro w' ⟨s0, s1, s2, s3, s4, s5, s6, s7, s8⟩
         go_simp
         with_reducible rfl
        rotate_left
        ·
         simp only [Act.put, List.setIfInBounds_toArray, List.set_cons_zero, List.set_cons_succ, i64_w]
         rfl
        refine one_ (i := 5) (N := some 87) #[I,I,I,I,I,I,O,O,O,O,O,O,O,O,O,O,O,O,O,O,O,O,O,O,O,O,O,O,O,O,O,O,O,O,O,O,O,O,O,O,O,O] rfl rfl (one_of HT_.out (by kernel_rfl)) (by decide) (fun K hK => ?_)
        refine goes_ Try.func13 (by kernel_rfl) rfl #[.agg #[.int .i64 t270, .int .i64 t271, .bool false]] (by rfl) rfl rfl (by (try simp only [List.map_toArray, List.map_cons, List.map_nil]); first | done | rfl | (simp only [List.length_drop, List.length_take]; rfl)) ?_
        with_reducible refine (coupletlaw04_fine.calls kj5 t270 t271 false true _ A164.out).mono ?_
        rintro e w170 ⟨rfl, hb⟩
        refine ⟨_, rfl, ?_⟩
        have n0_ := Aside0.mk (blk_below (g := gb0) (o := .cells #[.int .i64 a0_0, .int .i64 a0_1, .bool a0_2] 23 (0, 0)) (by (with_reducible repeat first | apply blk_drewN | apply blk_drew | apply blk_alloc); exact BK0.out) hb)
        have n1_ := Aside0.mk (blk_below (g := gb1) (o := .cells #[.int .i64 a1_0, .int .i64 a1_1, .bool a1_2] 23 (0, 0)) (by (with_reducible repeat first | apply blk_drewN | apply blk_drew | apply blk_alloc); exact BK1.out) hb)
        have n2_ := Aside0.mk (blk_below (g := gb2) (o := .cells #[.int .i64 t264, .int .i64 t265, .bool t266] 23 (0, 0)) (by (with_reducible repeat first | apply blk_drewN | apply blk_drew | apply blk_alloc); exact BK2.out) hb)
        have n3_ := Aside0.mk (blk_below (g := gb3) (o := .cells #[.int .i64 t267, .int .i64 t268, .bool t269] 23 (0, 0)) (by (with_reducible repeat first | apply blk_drewN | apply blk_drew | apply blk_alloc); exact BK3.out) hb)
        have n4_ := Aside0.mk (blk_below (g := gb4) (o := .cells #[.int .i64 t270, .int .i64 t271, .bool false] 23 (0, 0)) (by (with_reducible repeat first | apply blk_drewN | apply blk_drew | apply blk_alloc); exact BK4.out) hb)
        have n5_ := Aside0.mk (below_step (by repeat (first | (with_reducible first | exact HB.out | apply below_alloc | apply pw_below_drewN | apply below_drew1 | refine below_set ?_ GE0.out | refine below_set ?_ GE1.out | refine below_set ?_ GE2.out | refine below_set ?_ GE3.out | refine below_set ?_ GE4.out) | exact HB.out)) hb)
        clear BK0
        clear BK1
        clear BK2
        clear BK3
        clear BK4
        clear HB
        have BK0 := n0_
        have BK1 := n1_
        have BK2 := n2_
        have BK3 := n3_
        have BK4 := n4_
        have HB := n5_
        clear n0_ n1_ n2_ n3_ n4_ n5_
        (try clear hb)
        (try clear hb2)
        (try clear hk)
        (try clear hi)
        refine hK.out _ _ ⟨(blk_cell BK4.out 0).trans rfl, (blk_cell BK4.out 1).trans rfl, (blk_cell BK4.out 2).trans rfl, (blk_cell BK0.out 0).trans rfl, (blk_cell BK0.out 1).trans rfl, (blk_cell BK0.out 2).trans rfl, (blk_cell BK1.out 0).trans rfl, (blk_cell BK1.out 1).trans rfl, (blk_cell BK1.out 2).trans rfl⟩ (fun hHeld => ?_)
        clear hK K
        refine norm_ (a' := ?_) ?_ ?_
        rotate_left
        ·
         show Act.put _ (some 87) _ = _
         simp only [Act.put, List.setIfInBounds_toArray, List.set_cons_zero, List.set_cons_succ, i64_w]
         rfl
        refine pure_ (i := 6) (N := some 88) (v := ?_) (a' := ?_) #[I,I,I,I,I,I,I,O,O,O,O,O,O,O,O,O,O,O,O,O,O,O,O,O,O,O,O,O,O,O,O,O,O,O,O,O,O,O,O,O,O,O] rfl rfl (any_of HT_.out (by kernel_rfl)) (fun _ _ _ h => h) (Or.inl ⟨by rfl, ?_⟩) ?_ ?_
        rotate_left
        ·
         intro w'
         go_simp
         with_reducible rfl
        rotate_left
        ·
         simp only [Act.put, List.setIfInBounds_toArray, List.set_cons_zero, List.set_cons_succ, i64_w]
         rfl
        refine pure_ (i := 7) (N := some 89) (v := ?_) (a' := ?_) #[I,I,I,I,I,I,I,I,O,O,O,O,O,O,O,O,O,O,O,O,O,O,O,O,O,O,O,O,O,O,O,O,O,O,O,O,O,O,O,O,O,O] rfl rfl (any_of HT_.out (by kernel_rfl)) (fun _ _ _ h => h) (Or.inl ⟨by rfl, ?_⟩) ?_ ?_
        rotate_left
        ·
         intro w'
         go_simp
         with_reducible rfl
        rotate_left
        ·
         simp only [Act.put, List.setIfInBounds_toArray, List.set_cons_zero, List.set_cons_succ, i64_w]
         rfl
        refine pure_ (i := 9) (N := some 91) (v := ?_) (a' := ?_) #[I,I,I,I,I,I,I,I,O,I,O,O,O,O,O,O,O,O,O,O,O,O,O,O,O,O,O,O,O,O,O,O,O,O,O,O,O,O,O,O,O,O] rfl rfl (any_of HT_.out (by kernel_rfl)) (fun _ _ _ h => h) (Or.inl ⟨by rfl, ?_⟩) ?_ ?_
        rotate_left
        ·
         intro w'
         go_simp
         with_reducible rfl
        rotate_left
        ·
         simp only [Act.put, List.setIfInBounds_toArray, List.set_cons_zero, List.set_cons_succ, i64_w]
         rfl
        refine pure_ (i := 12) (N := some 94) (v := ?_) (a' := ?_) #[I,I,I,I,I,I,I,I,O,I,O,O,I,O,O,O,O,O,O,O,O,O,O,O,O,O,O,O,O,O,O,O,O,O,O,O,O,O,O,O,O,O] rfl rfl (any_of HT_.out (by kernel_rfl)) (fun _ _ _ h => h) (Or.inl ⟨by rfl, ?_⟩) ?_ ?_
        rotate_left
        ·
         intro w'
         go_simp
         with_reducible rfl
        rotate_left
        ·
         simp only [Act.put, List.setIfInBounds_toArray, List.set_cons_zero, List.set_cons_succ, i64_w]
         rfl
        refine pure_ (i := 14) (N := some 96) (v := ?_) (a' := ?_) #[I,I,I,I,I,I,I,I,O,I,O,O,I,O,I,O,O,O,O,O,O,O,O,O,O,O,O,O,O,O,O,O,O,O,O,O,O,O,O,O,O,O] rfl rfl (any_of HT_.out (by kernel_rfl)) (fun _ _ _ h => h) (Or.inl ⟨by rfl, ?_⟩) ?_ ?_
        rotate_left
        ·
         intro w'
         go_simp
         with_reducible rfl
        rotate_left
        ·
         simp only [Act.put, List.setIfInBounds_toArray, List.set_cons_zero, List.set_cons_succ, i64_w]
         rfl
        refine pure_ (i := 17) (N := some 99) (v := ?_) (a' := ?_) #[I,I,I,I,I,I,I,I,O,I,O,O,I,O,I,O,O,I,O,O,O,O,O,O,O,O,O,O,O,O,O,O,O,O,O,O,O,O,O,O,O,O] rfl rfl (any_of HT_.out (by kernel_rfl)) (fun _ _ _ h => h) (Or.inl ⟨by rfl, ?_⟩) ?_ ?_
        rotate_left
        ·
         intro w'
         go_simp
         with_reducible rfl
        rotate_left
        ·
         simp only [Act.put, List.setIfInBounds_toArray, List.set_cons_zero, List.set_cons_succ, i64_w]
         rfl
        refine pure_ (i := 19) (N := some 101) (v := ?_) (a' := ?_) #[I,I,I,I,I,I,I,I,O,I,O,O,I,O,I,O,O,I,O,I,O,O,O,O,O,O,O,O,O,O,O,O,O,O,O,O,O,O,O,O,O,O] rfl rfl (any_of HT_.out (by kernel_rfl)) (fun _ _ _ h => h) (Or.inl ⟨by rfl, ?_⟩) ?_ ?_
        rotate_left
        ·
         intro w'
         go_simp
         with_reducible rfl
        rotate_left
        ·
         simp only [Act.put, List.setIfInBounds_toArray, List.set_cons_zero, List.set_cons_succ, i64_w]
         rfl
        refine take_ (i := 8) (N := some 90) (v := ?_) (a' := ?_) #[I,I,I,I,I,I,I,I,I,I,O,O,I,O,I,O,O,I,O,I,O,O,O,O,O,O,O,O,O,O,O,O,O,O,O,O,O,O,O,O,O,O] rfl rfl (take_ofW HT_.out HW_.out (by kernel_rfl)) (fun _ _ _ h => h) (Or.inl ⟨by rfl, ?_⟩) hHeld ?_ ?_
        rotate_left
        ·
         rintro w' ⟨s0, s1, s2, s3, s4, s5, s6, s7, s8⟩
         go_simp
         with_reducible rfl
        rotate_left
        ·
         simp only [Act.put, List.setIfInBounds_toArray, List.set_cons_zero, List.set_cons_succ, i64_w]
         rfl
        refine take_ (i := 10) (N := some 92) (v := ?_) (a' := ?_) #[I,I,I,I,I,I,I,I,I,I,I,O,I,O,I,O,O,I,O,I,O,O,O,O,O,O,O,O,O,O,O,O,O,O,O,O,O,O,O,O,O,O] rfl rfl (take_ofW HT_.out HW_.out (by kernel_rfl)) (fun _ _ _ h => h) (Or.inl ⟨by rfl, ?_⟩) hHeld ?_ ?_
        rotate_left
        ·
         rintro w' ⟨s0, s1, s2, s3, s4, s5, s6, s7, s8⟩
         go_simp
         with_reducible rfl
        rotate_left
        ·
         simp only [Act.put, List.setIfInBounds_toArray, List.set_cons_zero, List.set_cons_succ, i64_w]
         rfl
        refine pure_ (i := 11) (N := some 93) (v := ?_) (a' := ?_) #[I,I,I,I,I,I,I,I,I,I,I,I,I,O,I,O,O,I,O,I,O,O,O,O,O,O,O,O,O,O,O,O,O,O,O,O,O,O,O,O,O,O] rfl rfl (any_of HT_.out (by kernel_rfl)) (fun _ _ _ h => h) (Or.inl ⟨by rfl, ?_⟩) ?_ ?_
        rotate_left
        ·
         intro w'
         go_simp
         with_reducible rfl
        rotate_left
        ·
         simp only [Act.put, List.setIfInBounds_toArray, List.set_cons_zero, List.set_cons_succ, i64_w]
         rfl
        refine take_ (i := 13) (N := some 95) (v := ?_) (a' := ?_) #[I,I,I,I,I,I,I,I,I,I,I,I,I,I,I,O,O,I,O,I,O,O,O,O,O,O,O,O,O,O,O,O,O,O,O,O,O,O,O,O,O,O] rfl rfl (take_ofW HT_.out HW_.out (by kernel_rfl)) (fun _ _ _ h => h) (Or.inl ⟨by rfl, ?_⟩) hHeld ?_ ?_
        rotate_left
        ·
         rintro w' ⟨s0, s1, s2, s3, s4, s5, s6, s7, s8⟩
         go_simp
         with_reducible rfl
        rotate_left
        ·
         simp only [Act.put, List.setIfInBounds_toArray, List.set_cons_zero, List.set_cons_succ, i64_w]
         rfl
        refine take_ (i := 15) (N := some 97) (v := ?_) (a' := ?_) #[I,I,I,I,I,I,I,I,I,I,I,I,I,I,I,I,O,I,O,I,O,O,O,O,O,O,O,O,O,O,O,O,O,O,O,O,O,O,O,O,O,O] rfl rfl (take_ofW HT_.out HW_.out (by kernel_rfl)) (fun _ _ _ h => h) (Or.inl ⟨by rfl, ?_⟩) hHeld ?_ ?_
        rotate_left
        ·
         rintro w' ⟨s0, s1, s2, s3, s4, s5, s6, s7, s8⟩
         go_simp
         with_reducible rfl
        rotate_left
        ·
         simp only [Act.put, List.setIfInBounds_toArray, List.set_cons_zero, List.set_cons_succ, i64_w]
         rfl
        refine pure_ (i := 16) (N := some 98) (v := ?_) (a' := ?_) #[I,I,I,I,I,I,I,I,I,I,I,I,I,I,I,I,I,I,O,I,O,O,O,O,O,O,O,O,O,O,O,O,O,O,O,O,O,O,O,O,O,O] rfl rfl (any_of HT_.out (by kernel_rfl)) (fun _ _ _ h => h) (Or.inl ⟨by rfl, ?_⟩) ?_ ?_
        rotate_left
        ·
         intro w'
         go_simp
         with_reducible rfl
        rotate_left
        ·
         simp only [Act.put, List.setIfInBounds_toArray, List.set_cons_zero, List.set_cons_succ, i64_w]
         rfl
        refine take_ (i := 18) (N := some 100) (v := ?_) (a' := ?_) #[I,I,I,I,I,I,I,I,I,I,I,I,I,I,I,I,I,I,I,I,O,O,O,O,O,O,O,O,O,O,O,O,O,O,O,O,O,O,O,O,O,O] rfl rfl (take_ofW HT_.out HW_.out (by kernel_rfl)) (fun _ _ _ h => h) (Or.inl ⟨by rfl, ?_⟩) hHeld ?_ ?_
        rotate_left
        ·
         rintro w' ⟨s0, s1, s2, s3, s4, s5, s6, s7, s8⟩
         go_simp
         with_reducible rfl
        rotate_left
        ·
         simp only [Act.put, List.setIfInBounds_toArray, List.set_cons_zero, List.set_cons_succ, i64_w]
         rfl
        refine take_ (i := 20) (N := some 102) (v := ?_) (a' := ?_) #[I,I,I,I,I,I,I,I,I,I,I,I,I,I,I,I,I,I,I,I,I,O,O,O,O,O,O,O,O,O,O,O,O,O,O,O,O,O,O,O,O,O] rfl rfl (take_ofW HT_.out HW_.out (by kernel_rfl)) (fun _ _ _ h => h) (Or.inl ⟨by rfl, ?_⟩) hHeld ?_ ?_
        rotate_left
        ·
         rintro w' ⟨s0, s1, s2, s3, s4, s5, s6, s7, s8⟩
         go_simp
         with_reducible rfl
        rotate_left
        ·
         simp only [Act.put, List.setIfInBounds_toArray, List.set_cons_zero, List.set_cons_succ, i64_w]
         rfl
        refine one_ (i := 21) (N := some 103) #[I,I,I,I,I,I,I,I,I,I,I,I,I,I,I,I,I,I,I,I,I,I,O,O,O,O,O,O,O,O,O,O,O,O,O,O,O,O,O,O,O,O] rfl rfl (one_of HT_.out (by kernel_rfl)) (by decide) (fun K hK => ?_)
        refine goes_ Try.func15 (by kernel_rfl) rfl #[.int .i64 (wrap64 (a0_0 * a1_0)), .int .i64 (wrap64 (a0_1 * a1_1)), .int .i64 t270, .int .i64 t271] (by rfl) rfl rfl (by (try simp only [List.map_toArray, List.map_cons, List.map_nil]); first | done | rfl | (simp only [List.length_drop, List.length_take]; rfl)) ?_
        with_reducible refine (coupletref04_Same.calls kj5 (wrap64 (a0_0 * a1_0)) (wrap64 (a0_1 * a1_1)) t270 t271 true _ A166.out).mono ?_
        rintro e w171 ⟨rfl, hb⟩
        refine ⟨_, rfl, ?_⟩
        have n0_ := Aside0.mk (blk_below (g := gb0) (o := .cells #[.int .i64 a0_0, .int .i64 a0_1, .bool a0_2] 23 (0, 0)) (by (with_reducible repeat first | apply blk_drewN | apply blk_drew | apply blk_alloc); exact BK0.out) hb)
        have n1_ := Aside0.mk (blk_below (g := gb1) (o := .cells #[.int .i64 a1_0, .int .i64 a1_1, .bool a1_2] 23 (0, 0)) (by (with_reducible repeat first | apply blk_drewN | apply blk_drew | apply blk_alloc); exact BK1.out) hb)
        have n2_ := Aside0.mk (blk_below (g := gb2) (o := .cells #[.int .i64 t264, .int .i64 t265, .bool t266] 23 (0, 0)) (by (with_reducible repeat first | apply blk_drewN | apply blk_drew | apply blk_alloc); exact BK2.out) hb)
        have n3_ := Aside0.mk (blk_below (g := gb3) (o := .cells #[.int .i64 t267, .int .i64 t268, .bool t269] 23 (0, 0)) (by (with_reducible repeat first | apply blk_drewN | apply blk_drew | apply blk_alloc); exact BK3.out) hb)
        have n4_ := Aside0.mk (blk_below (g := gb4) (o := .cells #[.int .i64 t270, .int .i64 t271, .bool false] 23 (0, 0)) (by (with_reducible repeat first | apply blk_drewN | apply blk_drew | apply blk_alloc); exact BK4.out) hb)
        have n5_ := Aside0.mk (below_step (by repeat (first | (with_reducible first | exact HB.out | apply below_alloc | apply pw_below_drewN | apply below_drew1 | refine below_set ?_ GE0.out | refine below_set ?_ GE1.out | refine below_set ?_ GE2.out | refine below_set ?_ GE3.out | refine below_set ?_ GE4.out) | exact HB.out)) hb)
        clear BK0
        clear BK1
        clear BK2
        clear BK3
        clear BK4
        clear HB
        have BK0 := n0_
        have BK1 := n1_
        have BK2 := n2_
        have BK3 := n3_
        have BK4 := n4_
        have HB := n5_
        clear n0_ n1_ n2_ n3_ n4_ n5_
        (try clear hb)
        (try clear hb2)
        (try clear hk)
        (try clear hi)
        refine hK.out _ _ ⟨(blk_cell BK4.out 0).trans rfl, (blk_cell BK4.out 1).trans rfl, (blk_cell BK4.out 2).trans rfl, (blk_cell BK0.out 0).trans rfl, (blk_cell BK0.out 1).trans rfl, (blk_cell BK0.out 2).trans rfl, (blk_cell BK1.out 0).trans rfl, (blk_cell BK1.out 1).trans rfl, (blk_cell BK1.out 2).trans rfl⟩ (fun hHeld => ?_)
        clear hK K
        refine norm_ (a' := ?_) ?_ ?_
        rotate_left
        ·
         show Act.put _ (some 103) _ = _
         simp only [Act.put, List.setIfInBounds_toArray, List.set_cons_zero, List.set_cons_succ, i64_w]
         rfl
        refine pure_ (i := 22) (N := some 104) (v := ?_) (a' := ?_) #[I,I,I,I,I,I,I,I,I,I,I,I,I,I,I,I,I,I,I,I,I,I,I,O,O,O,O,O,O,O,O,O,O,O,O,O,O,O,O,O,O,O] rfl rfl (any_of HT_.out (by kernel_rfl)) (fun _ _ _ h => h) (Or.inl ⟨by rfl, ?_⟩) ?_ ?_
        rotate_left
        ·
         intro w'
         go_simp
         with_reducible rfl
        rotate_left
        ·
         simp only [Act.put, List.setIfInBounds_toArray, List.set_cons_zero, List.set_cons_succ, i64_w]
         rfl
        refine pure_ (i := 23) (N := some 105) (v := ?_) (a' := ?_) #[I,I,I,I,I,I,I,I,I,I,I,I,I,I,I,I,I,I,I,I,I,I,I,I,O,O,O,O,O,O,O,O,O,O,O,O,O,O,O,O,O,O] rfl rfl (any_of HT_.out (by kernel_rfl)) (fun _ _ _ h => h) (Or.inl ⟨by rfl, ?_⟩) ?_ ?_
        rotate_left
        ·
         intro w'
         go_simp
         with_reducible rfl
        rotate_left
        ·
         simp only [Act.put, List.setIfInBounds_toArray, List.set_cons_zero, List.set_cons_succ, i64_w]
         rfl
        refine pure_ (i := 24) (N := some 106) (v := ?_) (a' := ?_) #[I,I,I,I,I,I,I,I,I,I,I,I,I,I,I,I,I,I,I,I,I,I,I,I,I,O,O,O,O,O,O,O,O,O,O,O,O,O,O,O,O,O] rfl rfl (any_of HT_.out (by kernel_rfl)) (fun _ _ _ h => h) (Or.inl ⟨by rfl, ?_⟩) ?_ ?_
        rotate_left
        ·
         intro w'
         go_simp
         with_reducible rfl
        rotate_left
        ·
         simp only [Act.put, List.setIfInBounds_toArray, List.set_cons_zero, List.set_cons_succ, i64_w]
         rfl
        refine pure_ (i := 25) (N := some 107) (v := ?_) (a' := ?_) #[I,I,I,I,I,I,I,I,I,I,I,I,I,I,I,I,I,I,I,I,I,I,I,I,I,I,O,O,O,O,O,O,O,O,O,O,O,O,O,O,O,O] rfl rfl (any_of HT_.out (by kernel_rfl)) (fun _ _ _ h => h) (Or.inl ⟨by rfl, ?_⟩) ?_ ?_
        rotate_left
        ·
         intro w'
         go_simp
         with_reducible rfl
        rotate_left
        ·
         simp only [Act.put, List.setIfInBounds_toArray, List.set_cons_zero, List.set_cons_succ, i64_w]
         rfl
        refine pure_ (i := 26) (N := some 108) (v := ?_) (a' := ?_) #[I,I,I,I,I,I,I,I,I,I,I,I,I,I,I,I,I,I,I,I,I,I,I,I,I,I,I,O,O,O,O,O,O,O,O,O,O,O,O,O,O,O] rfl rfl (any_of HT_.out (by kernel_rfl)) (fun _ _ _ h => h) (Or.inl ⟨by rfl, ?_⟩) ?_ ?_
        rotate_left
        ·
         intro w'
         go_simp
         with_reducible rfl
        rotate_left
        ·
         simp only [Act.put, List.setIfInBounds_toArray, List.set_cons_zero, List.set_cons_succ, i64_w]
         rfl
        refine pure_ (i := 28) (N := some 110) (v := ?_) (a' := ?_) #[I,I,I,I,I,I,I,I,I,I,I,I,I,I,I,I,I,I,I,I,I,I,I,I,I,I,I,O,I,O,O,O,O,O,O,O,O,O,O,O,O,O] rfl rfl (any_of HT_.out (by kernel_rfl)) (fun _ _ _ h => h) (Or.inl ⟨by rfl, ?_⟩) ?_ ?_
        rotate_left
        ·
         intro w'
         go_simp
         with_reducible rfl
        rotate_left
        ·
         simp only [Act.put, List.setIfInBounds_toArray, List.set_cons_zero, List.set_cons_succ, i64_w]
         rfl
        refine pure_ (i := 30) (N := some 112) (v := ?_) (a' := ?_) #[I,I,I,I,I,I,I,I,I,I,I,I,I,I,I,I,I,I,I,I,I,I,I,I,I,I,I,O,I,O,I,O,O,O,O,O,O,O,O,O,O,O] rfl rfl (any_of HT_.out (by kernel_rfl)) (fun _ _ _ h => h) (Or.inl ⟨by rfl, ?_⟩) ?_ ?_
        rotate_left
        ·
         intro w'
         go_simp
         with_reducible rfl
        rotate_left
        ·
         simp only [Act.put, List.setIfInBounds_toArray, List.set_cons_zero, List.set_cons_succ, i64_w]
         rfl
        refine pure_ (i := 33) (N := some 115) (v := ?_) (a' := ?_) #[I,I,I,I,I,I,I,I,I,I,I,I,I,I,I,I,I,I,I,I,I,I,I,I,I,I,I,O,I,O,I,O,O,I,O,O,O,O,O,O,O,O] rfl rfl (any_of HT_.out (by kernel_rfl)) (fun _ _ _ h => h) (Or.inl ⟨by rfl, ?_⟩) ?_ ?_
        rotate_left
        ·
         intro w'
         go_simp
         with_reducible rfl
        rotate_left
        ·
         simp only [Act.put, List.setIfInBounds_toArray, List.set_cons_zero, List.set_cons_succ, i64_w]
         rfl
        refine pure_ (i := 35) (N := some 117) (v := ?_) (a' := ?_) #[I,I,I,I,I,I,I,I,I,I,I,I,I,I,I,I,I,I,I,I,I,I,I,I,I,I,I,O,I,O,I,O,O,I,O,I,O,O,O,O,O,O] rfl rfl (any_of HT_.out (by kernel_rfl)) (fun _ _ _ h => h) (Or.inl ⟨by rfl, ?_⟩) ?_ ?_
        rotate_left
        ·
         intro w'
         go_simp
         with_reducible rfl
        rotate_left
        ·
         simp only [Act.put, List.setIfInBounds_toArray, List.set_cons_zero, List.set_cons_succ, i64_w]
         rfl
        refine take_ (i := 27) (N := some 109) (v := ?_) (a' := ?_) #[I,I,I,I,I,I,I,I,I,I,I,I,I,I,I,I,I,I,I,I,I,I,I,I,I,I,I,I,I,O,I,O,O,I,O,I,O,O,O,O,O,O] rfl rfl (take_ofW HT_.out HW_.out (by kernel_rfl)) (fun _ _ _ h => h) (Or.inl ⟨by rfl, ?_⟩) hHeld ?_ ?_
        rotate_left
        ·
         rintro w' ⟨s0, s1, s2, s3, s4, s5, s6, s7, s8⟩
         go_simp
         with_reducible rfl
        rotate_left
        ·
         simp only [Act.put, List.setIfInBounds_toArray, List.set_cons_zero, List.set_cons_succ, i64_w]
         rfl
        refine take_ (i := 29) (N := some 111) (v := ?_) (a' := ?_) #[I,I,I,I,I,I,I,I,I,I,I,I,I,I,I,I,I,I,I,I,I,I,I,I,I,I,I,I,I,I,I,O,O,I,O,I,O,O,O,O,O,O] rfl rfl (take_ofW HT_.out HW_.out (by kernel_rfl)) (fun _ _ _ h => h) (Or.inl ⟨by rfl, ?_⟩) hHeld ?_ ?_
        rotate_left
        ·
         rintro w' ⟨s0, s1, s2, s3, s4, s5, s6, s7, s8⟩
         go_simp
         with_reducible rfl
        rotate_left
        ·
         simp only [Act.put, List.setIfInBounds_toArray, List.set_cons_zero, List.set_cons_succ, i64_w]
         rfl
        refine take_ (i := 31) (N := some 113) (v := ?_) (a' := ?_) #[I,I,I,I,I,I,I,I,I,I,I,I,I,I,I,I,I,I,I,I,I,I,I,I,I,I,I,I,I,I,I,I,O,I,O,I,O,O,O,O,O,O] rfl rfl (take_ofW HT_.out HW_.out (by kernel_rfl)) (fun _ _ _ h => h) (Or.inl ⟨by rfl, ?_⟩) hHeld ?_ ?_
        rotate_left
        ·
         rintro w' ⟨s0, s1, s2, s3, s4, s5, s6, s7, s8⟩
         go_simp
         with_reducible rfl
        rotate_left
        ·
         simp only [Act.put, List.setIfInBounds_toArray, List.set_cons_zero, List.set_cons_succ, i64_w]
         rfl
        refine pure_ (i := 32) (N := some 114) (v := ?_) (a' := ?_) #[I,I,I,I,I,I,I,I,I,I,I,I,I,I,I,I,I,I,I,I,I,I,I,I,I,I,I,I,I,I,I,I,I,I,O,I,O,O,O,O,O,O] rfl rfl (any_of HT_.out (by kernel_rfl)) (fun _ _ _ h => h) (Or.inl ⟨by rfl, ?_⟩) ?_ ?_
        rotate_left
        ·
         intro w'
         go_simp
         with_reducible rfl
        rotate_left
        ·
         simp only [Act.put, List.setIfInBounds_toArray, List.set_cons_zero, List.set_cons_succ, i64_w]
         rfl
        refine take_ (i := 34) (N := some 116) (v := ?_) (a' := ?_) #[I,I,I,I,I,I,I,I,I,I,I,I,I,I,I,I,I,I,I,I,I,I,I,I,I,I,I,I,I,I,I,I,I,I,I,I,O,O,O,O,O,O] rfl rfl (take_ofW HT_.out HW_.out (by kernel_rfl)) (fun _ _ _ h => h) (Or.inl ⟨by rfl, ?_⟩) hHeld ?_ ?_
        rotate_left
        ·
         rintro w' ⟨s0, s1, s2, s3, s4, s5, s6, s7, s8⟩
         go_simp
         with_reducible rfl
        rotate_left
        ·
         simp only [Act.put, List.setIfInBounds_toArray, List.set_cons_zero, List.set_cons_succ, i64_w]
         rfl
        refine take_ (i := 36) (N := some 118) (v := ?_) (a' := ?_) #[I,I,I,I,I,I,I,I,I,I,I,I,I,I,I,I,I,I,I,I,I,I,I,I,I,I,I,I,I,I,I,I,I,I,I,I,I,O,O,O,O,O] rfl rfl (take_ofW HT_.out HW_.out (by kernel_rfl)) (fun _ _ _ h => h) (Or.inl ⟨by rfl, ?_⟩) hHeld ?_ ?_
        rotate_left
        ·
         rintro w' ⟨s0, s1, s2, s3, s4, s5, s6, s7, s8⟩
         go_simp
         with_reducible rfl
        rotate_left
        ·
         simp only [Act.put, List.setIfInBounds_toArray, List.set_cons_zero, List.set_cons_succ, i64_w]
         rfl
        refine pure_ (i := 37) (N := some 119) (v := ?_) (a' := ?_) #[I,I,I,I,I,I,I,I,I,I,I,I,I,I,I,I,I,I,I,I,I,I,I,I,I,I,I,I,I,I,I,I,I,I,I,I,I,I,O,O,O,O] rfl rfl (any_of HT_.out (by kernel_rfl)) (fun _ _ _ h => h) (Or.inl ⟨by rfl, ?_⟩) ?_ ?_
        rotate_left
        ·
         intro w'
         go_simp
         with_reducible rfl
        rotate_left
        ·
         simp only [Act.put, List.setIfInBounds_toArray, List.set_cons_zero, List.set_cons_succ, i64_w]
         rfl
        refine one_ (i := 38) (N := some 120) #[I,I,I,I,I,I,I,I,I,I,I,I,I,I,I,I,I,I,I,I,I,I,I,I,I,I,I,I,I,I,I,I,I,I,I,I,I,I,I,O,O,O] rfl rfl (one_of HT_.out (by kernel_rfl)) (by decide) (fun K hK => ?_)
        refine goes_ Try.func10 (by kernel_rfl) rfl #[.int .i64 (wrap64 (a0_0 * a1_0)), .int .i64 (wrap64 (a0_1 * a1_1))] (by rfl) rfl rfl (by (try simp only [List.map_toArray, List.map_cons, List.map_nil]); first | done | rfl | (simp only [List.length_drop, List.length_take]; rfl)) ?_
        with_reducible refine (frac_New.calls kj5 (wrap64 (a0_0 * a1_0)) (wrap64 (a0_1 * a1_1)) t284 t285 t286 _ A168.out).mono ?_
        rintro e w172 ⟨rfl, hb⟩
        refine ⟨_, rfl, ?_⟩
        have n0_ := Aside0.mk (blk_below (g := gb0) (o := .cells #[.int .i64 a0_0, .int .i64 a0_1, .bool a0_2] 23 (0, 0)) (by (with_reducible repeat first | apply blk_drewN | apply blk_drew | apply blk_alloc); exact BK0.out) hb)
        have n1_ := Aside0.mk (blk_below (g := gb1) (o := .cells #[.int .i64 a1_0, .int .i64 a1_1, .bool a1_2] 23 (0, 0)) (by (with_reducible repeat first | apply blk_drewN | apply blk_drew | apply blk_alloc); exact BK1.out) hb)
        have n2_ := Aside0.mk (blk_below (g := gb2) (o := .cells #[.int .i64 t264, .int .i64 t265, .bool t266] 23 (0, 0)) (by (with_reducible repeat first | apply blk_drewN | apply blk_drew | apply blk_alloc); exact BK2.out) hb)
        have n3_ := Aside0.mk (blk_below (g := gb3) (o := .cells #[.int .i64 t267, .int .i64 t268, .bool t269] 23 (0, 0)) (by (with_reducible repeat first | apply blk_drewN | apply blk_drew | apply blk_alloc); exact BK3.out) hb)
        have n4_ := Aside0.mk (blk_below (g := gb4) (o := .cells #[.int .i64 t270, .int .i64 t271, .bool false] 23 (0, 0)) (by (with_reducible repeat first | apply blk_drewN | apply blk_drew | apply blk_alloc); exact BK4.out) hb)
        have n5_ := Aside0.mk (below_step (by repeat (first | (with_reducible first | exact HB.out | apply below_alloc | apply pw_below_drewN | apply below_drew1 | refine below_set ?_ GE0.out | refine below_set ?_ GE1.out | refine below_set ?_ GE2.out | refine below_set ?_ GE3.out | refine below_set ?_ GE4.out) | exact HB.out)) hb)
        clear BK0
        clear BK1
        clear BK2
        clear BK3
        clear BK4
        clear HB
        have BK0 := n0_
        have BK1 := n1_
        have BK2 := n2_
        have BK3 := n3_
        have BK4 := n4_
        have HB := n5_
        clear n0_ n1_ n2_ n3_ n4_ n5_
        (try clear hb)
        (try clear hb2)
        (try clear hk)
        (try clear hi)
        refine hK.out _ _ ⟨(blk_cell BK4.out 0).trans rfl, (blk_cell BK4.out 1).trans rfl, (blk_cell BK4.out 2).trans rfl, (blk_cell BK0.out 0).trans rfl, (blk_cell BK0.out 1).trans rfl, (blk_cell BK0.out 2).trans rfl, (blk_cell BK1.out 0).trans rfl, (blk_cell BK1.out 1).trans rfl, (blk_cell BK1.out 2).trans rfl⟩ (fun hHeld => ?_)
        clear hK K
        refine norm_ (a' := ?_) ?_ ?_
        rotate_left
        ·
         show Act.put _ (some 120) _ = _
         simp only [Act.put, List.setIfInBounds_toArray, List.set_cons_zero, List.set_cons_succ, i64_w]
         rfl
        refine pure_ (i := 39) (N := some 121) (v := ?_) (a' := ?_) #[I,I,I,I,I,I,I,I,I,I,I,I,I,I,I,I,I,I,I,I,I,I,I,I,I,I,I,I,I,I,I,I,I,I,I,I,I,I,I,I,O,O] rfl rfl (any_of HT_.out (by kernel_rfl)) (fun _ _ _ h => h) (Or.inl ⟨by rfl, ?_⟩) ?_ ?_
        rotate_left
        ·
         intro w'
         go_simp
         with_reducible rfl
        rotate_left
        ·
         simp only [Act.put, List.setIfInBounds_toArray, List.set_cons_zero, List.set_cons_succ, i64_w]
         rfl
        refine pure_ (i := 40) (N := some 122) (v := ?_) (a' := ?_) #[I,I,I,I,I,I,I,I,I,I,I,I,I,I,I,I,I,I,I,I,I,I,I,I,I,I,I,I,I,I,I,I,I,I,I,I,I,I,I,I,I,O] rfl rfl (any_of HT_.out (by kernel_rfl)) (fun _ _ _ h => h) (Or.inl ⟨by rfl, ?_⟩) ?_ ?_
        rotate_left
        ·
         intro w'
         go_simp
         with_reducible rfl
        rotate_left
        ·
         simp only [Act.put, List.setIfInBounds_toArray, List.set_cons_zero, List.set_cons_succ, i64_w]
         rfl
        refine pure_ (i := 41) (N := some 123) (v := ?_) (a' := ?_) #[I,I,I,I,I,I,I,I,I,I,I,I,I,I,I,I,I,I,I,I,I,I,I,I,I,I,I,I,I,I,I,I,I,I,I,I,I,I,I,I,I,I] rfl rfl (any_of HT_.out (by kernel_rfl)) (fun _ _ _ h => h) (Or.inl ⟨by rfl, ?_⟩) ?_ ?_
        rotate_left
        ·
         intro w'
         go_simp
         with_reducible rfl
        rotate_left
        ·
         simp only [Act.put, List.setIfInBounds_toArray, List.set_cons_zero, List.set_cons_succ, i64_w]
         rfl
        refine done_ (done_of HT_.out (by kernel_rfl)) ?_
        try go_wp2
        go_meet
        case rel => exact ⟨_, ((false != t286)), (by first | rfl | (simp; done) | (simp [*]; done)), H', ⟨by have := HJ5.out; first | omega | exact Nat.le_refl _⟩, ⟨by (with_reducible repeat first | apply blk_drewN | apply blk_drew | apply blk_alloc); exact BK0.out⟩, ⟨by (with_reducible repeat first | apply blk_drewN | apply blk_drew | apply blk_alloc); exact BK1.out⟩, ⟨by (with_reducible repeat first | apply blk_drewN | apply blk_drew | apply blk_alloc); exact BK2.out⟩, ⟨by (with_reducible repeat first | apply blk_drewN | apply blk_drew | apply blk_alloc); exact BK3.out⟩, ⟨by (with_reducible repeat first | apply blk_drewN | apply blk_drew | apply blk_alloc); exact BK4.out⟩, ⟨by repeat (first | (with_reducible first | exact HB.out | apply below_alloc | apply pw_below_drewN | apply below_drew1 | refine below_set ?_ GE0.out | refine below_set ?_ GE1.out | refine below_set ?_ GE2.out | refine below_set ?_ GE3.out | refine below_set ?_ GE4.out) | exact HB.out)⟩⟩
       ·
        replace c167 := Bool.eq_false_iff.mpr c167
        subst c167
        have H1 : (j1 kj5 true a0_0 a0_1 a0_2 a1_0 a1_1 a1_2 t264 t265 t266 t267 t268 t269) = some r := by rw [if_neg (show ¬ (false = true) by decide)] at H; exact H
        clear H
        have H := H1
        clear H1
        exact (j1_true hr H).elim
      ·
       replace c165 := Bool.eq_false_iff.mpr c165
       subst c165
       have H1 : (j1 kj5 true a0_0 a0_1 a0_2 a1_0 a1_1 a1_2 t264 t265 t266 t267 t268 t269) = some r := by rw [if_neg (show ¬ (false = true) by decide)] at H; exact H
       clear H
       have H := H1
       clear H1
       exact (j1_true hr H).elim
    case rest =>
     clear HC159
     try clear c1
     try clear p2
     try clear p6
     try clear c13
     try clear c15
     try clear c16
     try clear p64
     try clear c165
     obtain ⟨kq, x123_158, rfl, HA, HJ158, BK0, BK1, BK2, BK3, BK4, HB⟩ := hcut
     cases kq with
     | zero => exact absurd HA.out (by simp [j1])
     | succ kj158 =>
      have H := HA.out
      clear HA
      simp only [j1] at H
      by_cases c178 : x123_158 = true
      ·
       subst c178
       have H1 : (some false) = some r := by rw [if_pos rfl] at H; exact H
       clear H
       have H := H1
       clear H1
       obtain rfl := Option.some.inj H
       exact absurd hr (by decide)
      ·
       replace c178 := Bool.eq_false_iff.mpr c178
       subst c178
       have H1 : (if a0_1 = a1_1 then ((frac_New.f kj158 (wrap64 (a0_0 + a1_0)) a0_1).bind fun bt287 => (if (t266 == bt287.2.2) = true then ((frac_New.f kj158 (wrap64 (a0_0 - a1_0)) a0_1).bind fun bt290 => (if (t269 == bt290.2.2) = true then ((coupletlaw04_awake.f kj158).bind fun t293 => (some t293)) else (some false))) else (some false))) else ((coupletlaw04_awake.f kj158).bind fun t294 => (some t294))) = some r := by rw [if_neg (show ¬ (false = true) by decide)] at H; exact H
       clear H
       have H := H1
       clear H1
       have HJ := Aside0.mk H
       clear H
       go_upto_region 6 with (fail)
       (try simp only [Act.put, List.setIfInBounds_toArray, List.set_cons_zero, List.set_cons_succ])
       have hcxq0_0 : wc.cell? ⟨gb2, 0, none⟩ = some (.int .i64 t264) := (blk_cell BK2.out 0).trans rfl
       have hfxq0_0 := blk_frozen BK2.out 0
       have hcxq0_1 : wc.cell? ⟨gb2, 1, none⟩ = some (.int .i64 t265) := (blk_cell BK2.out 1).trans rfl
       have hfxq0_1 := blk_frozen BK2.out 1
       have hcxq0_2 : wc.cell? ⟨gb2, 2, none⟩ = some (.bool t266) := (blk_cell BK2.out 2).trans rfl
       have hfxq0_2 := blk_frozen BK2.out 2
       have hcxq1_0 : wc.cell? ⟨gb3, 0, none⟩ = some (.int .i64 t267) := (blk_cell BK3.out 0).trans rfl
       have hfxq1_0 := blk_frozen BK3.out 0
       have hcxq1_1 : wc.cell? ⟨gb3, 1, none⟩ = some (.int .i64 t268) := (blk_cell BK3.out 1).trans rfl
       have hfxq1_1 := blk_frozen BK3.out 1
       have hcxq1_2 : wc.cell? ⟨gb3, 2, none⟩ = some (.bool t269) := (blk_cell BK3.out 2).trans rfl
       have hfxq1_2 := blk_frozen BK3.out 2
       repeat (first | go_values | go_skip | go_guarded | go_step | go_upon | go_back | (simp only [Int.not_lt, Int.not_le] at *; go_simp))
       go_loopg [127] 2 (fun d v127 w' => ∃ (i : Int), v127 = .int .i64 i ∧ Aside0 (0 ≤ i ∧ i + d = 2) ∧ Aside0 (w'.heap[gb0]? = some (.cells #[.int .i64 a0_0, .int .i64 a0_1, .bool a0_2] 23 (0, 0))) ∧ Aside0 (w'.heap[gb1]? = some (.cells #[.int .i64 a1_0, .int .i64 a1_1, .bool a1_2] 23 (0, 0))) ∧ Aside0 (w'.heap[gb2]? = some (.cells #[.int .i64 t264, .int .i64 t265, .bool t266] 23 (0, 0))) ∧ Aside0 (w'.heap[gb3]? = some (.cells #[.int .i64 t267, .int .i64 t268, .bool t269] 23 (0, 0))) ∧ Aside0 (w'.heap[gb4]? = some (.cells #[.int .i64 t270, .int .i64 t271, .bool t272] 23 (0, 0))) ∧ Aside0 (Below w.heap.size w w'))
       case atStart => exact ⟨0, rfl, ⟨by omega, by omega⟩, ⟨by (with_reducible repeat first | apply blk_drewN | apply blk_drew | apply blk_alloc); exact BK0.out⟩, ⟨by (with_reducible repeat first | apply blk_drewN | apply blk_drew | apply blk_alloc); exact BK1.out⟩, ⟨by (with_reducible repeat first | apply blk_drewN | apply blk_drew | apply blk_alloc); exact BK2.out⟩, ⟨by (with_reducible repeat first | apply blk_drewN | apply blk_drew | apply blk_alloc); exact BK3.out⟩, ⟨by (with_reducible repeat first | apply blk_drewN | apply blk_drew | apply blk_alloc); exact BK4.out⟩, ⟨by repeat (first | (with_reducible first | exact HB.out | apply below_alloc | apply pw_below_drewN | apply below_drew1 | refine below_set ?_ GE0.out | refine below_set ?_ GE1.out | refine below_set ?_ GE2.out | refine below_set ?_ GE3.out | refine below_set ?_ GE4.out) | exact HB.out)⟩⟩
       case round =>
        try clear hcxq0_0 hfxq0_0
        try clear hcxq0_1 hfxq0_1
        try clear hcxq0_2 hfxq0_2
        try clear hcxq1_0 hfxq1_0
        try clear hcxq1_1 hfxq1_1
        try clear hcxq1_2 hfxq1_2
        clear BK0 BK1 BK2 BK3 BK4 HB
        obtain ⟨i, rfl, HI, BK0, BK1, BK2, BK3, BK4, HB⟩ := hrel
        have hi : i = 0 ∨ i = 1 ∨ i = 2 := by have := HI.out; omega
        rcases hi with rfl | rfl | rfl
        ·
         go_upto_region 9 with (((with_reducible refine gate_dst (N := 9) rfl ?_); refine box_event ?hg (N := 9) ?hd (cs := #[.int .i64 0, .int .i64 0, .bool false]) (t := 23) ?hr ?_; (case hd => rfl); (case hg => rfl); (case hr => first | (go_simp; done) | (go_simp; rfl)); intro gz hg wz hbox hb; have n0_ := Aside0.mk (blk_below (g := gb0) (o := .cells #[.int .i64 a0_0, .int .i64 a0_1, .bool a0_2] 23 (0, 0)) (by (with_reducible repeat first | apply blk_drewN | apply blk_drew | apply blk_alloc); exact BK0.out) hb); have n1_ := Aside0.mk (blk_below (g := gb1) (o := .cells #[.int .i64 a1_0, .int .i64 a1_1, .bool a1_2] 23 (0, 0)) (by (with_reducible repeat first | apply blk_drewN | apply blk_drew | apply blk_alloc); exact BK1.out) hb); have n2_ := Aside0.mk (blk_below (g := gb2) (o := .cells #[.int .i64 t264, .int .i64 t265, .bool t266] 23 (0, 0)) (by (with_reducible repeat first | apply blk_drewN | apply blk_drew | apply blk_alloc); exact BK2.out) hb); have n3_ := Aside0.mk (blk_below (g := gb3) (o := .cells #[.int .i64 t267, .int .i64 t268, .bool t269] 23 (0, 0)) (by (with_reducible repeat first | apply blk_drewN | apply blk_drew | apply blk_alloc); exact BK3.out) hb); have n4_ := Aside0.mk (blk_below (g := gb4) (o := .cells #[.int .i64 t270, .int .i64 t271, .bool t272] 23 (0, 0)) (by (with_reducible repeat first | apply blk_drewN | apply blk_drew | apply blk_alloc); exact BK4.out) hb); have n5_ := Aside0.mk (below_step (by repeat (first | (with_reducible first | exact HB.out | apply below_alloc | apply pw_below_drewN | apply below_drew1 | refine below_set ?_ GE0.out | refine below_set ?_ GE1.out | refine below_set ?_ GE2.out | refine below_set ?_ GE3.out | refine below_set ?_ GE4.out) | exact HB.out)) hb); have n6_ := Aside0.mk hbox; have n7_ := Aside0.mk (by rw [hg]; exact below_size (by repeat (first | (with_reducible first | exact HB.out | apply below_alloc | apply pw_below_drewN | apply below_drew1 | refine below_set ?_ GE0.out | refine below_set ?_ GE1.out | refine below_set ?_ GE2.out | refine below_set ?_ GE3.out | refine below_set ?_ GE4.out) | exact HB.out)) : w.heap.size ≤ gz); have NZ0 := Aside0.mk (by rw [hg]; exact Nat.ne_of_lt (blk_lt (g := gb0) (o := .cells #[.int .i64 a0_0, .int .i64 a0_1, .bool a0_2] 23 (0, 0)) (by (with_reducible repeat first | apply blk_drewN | apply blk_drew | apply blk_alloc); exact BK0.out)) : gb0 ≠ gz); have NZ1 := Aside0.mk (by rw [hg]; exact Nat.ne_of_lt (blk_lt (g := gb1) (o := .cells #[.int .i64 a1_0, .int .i64 a1_1, .bool a1_2] 23 (0, 0)) (by (with_reducible repeat first | apply blk_drewN | apply blk_drew | apply blk_alloc); exact BK1.out)) : gb1 ≠ gz); have NZ2 := Aside0.mk (by rw [hg]; exact Nat.ne_of_lt (blk_lt (g := gb2) (o := .cells #[.int .i64 t264, .int .i64 t265, .bool t266] 23 (0, 0)) (by (with_reducible repeat first | apply blk_drewN | apply blk_drew | apply blk_alloc); exact BK2.out)) : gb2 ≠ gz); have NZ3 := Aside0.mk (by rw [hg]; exact Nat.ne_of_lt (blk_lt (g := gb3) (o := .cells #[.int .i64 t267, .int .i64 t268, .bool t269] 23 (0, 0)) (by (with_reducible repeat first | apply blk_drewN | apply blk_drew | apply blk_alloc); exact BK3.out)) : gb3 ≠ gz); have NZ4 := Aside0.mk (by rw [hg]; exact Nat.ne_of_lt (blk_lt (g := gb4) (o := .cells #[.int .i64 t270, .int .i64 t271, .bool t272] 23 (0, 0)) (by (with_reducible repeat first | apply blk_drewN | apply blk_drew | apply blk_alloc); exact BK4.out)) : gb4 ≠ gz); clear BK0 BK1 BK2 BK3 BK4 HB hb hbox hg; have BK0 := n0_; have BK1 := n1_; have BK2 := n2_; have BK3 := n3_; have BK4 := n4_; have HB := n5_; have BKz := n6_; have GEz := n7_; clear n0_ n1_ n2_ n3_ n4_ n5_ n6_ n7_; have hna := NZ0.out; have hna' := NZ0.out.symm; have hnb := NZ1.out; have hnb' := NZ1.out.symm; have hcxz_0 : wz.cell? ⟨gz, 0, none⟩ = some (.int .i64 0) := (blk_cell BKz.out 0).trans rfl; have hfxz_0 := blk_frozen BKz.out 0; have hcxz_1 : wz.cell? ⟨gz, 1, none⟩ = some (.int .i64 0) := (blk_cell BKz.out 1).trans rfl; have hfxz_1 := blk_frozen BKz.out 1; have hcxz_2 : wz.cell? ⟨gz, 2, none⟩ = some (.bool false) := (blk_cell BKz.out 2).trans rfl; have hfxz_2 := blk_frozen BKz.out 2; have hcxza_0 : wz.cell? ⟨gb0, 0, none⟩ = some (.int .i64 a0_0) := (blk_cell BK0.out 0).trans rfl; have hfxza_0 := blk_frozen BK0.out 0; have hcxza_1 : wz.cell? ⟨gb0, 1, none⟩ = some (.int .i64 a0_1) := (blk_cell BK0.out 1).trans rfl; have hfxza_1 := blk_frozen BK0.out 1; have hcxza_2 : wz.cell? ⟨gb0, 2, none⟩ = some (.bool a0_2) := (blk_cell BK0.out 2).trans rfl; have hfxza_2 := blk_frozen BK0.out 2; have hcxzb_0 : wz.cell? ⟨gb1, 0, none⟩ = some (.int .i64 a1_0) := (blk_cell BK1.out 0).trans rfl; have hfxzb_0 := blk_frozen BK1.out 0; have hcxzb_1 : wz.cell? ⟨gb1, 1, none⟩ = some (.int .i64 a1_1) := (blk_cell BK1.out 1).trans rfl; have hfxzb_1 := blk_frozen BK1.out 1; have hcxzb_2 : wz.cell? ⟨gb1, 2, none⟩ = some (.bool a1_2) := (blk_cell BK1.out 2).trans rfl; have hfxzb_2 := blk_frozen BK1.out 2))
         (try simp only [Act.put, List.setIfInBounds_toArray, List.set_cons_zero, List.set_cons_succ])
         rcases Rhx.out with hbad | ⟨hbad, hfi, hri, hsa⟩
         ·
          subst hbad
          repeat (first | go_values | go_skip | go_guarded | go_step | go_upon | go_back | (simp only [Int.not_lt, Int.not_le] at *; go_simp))
          go_roundg (gk - 1)
          case measure => have := HI.out; omega
          case rel => exact ⟨1, (by first | rfl | (simp; done)), ⟨by omega, by have := HI.out; omega⟩, ⟨(by (repeat (first | (with_reducible first | refine blk_drewN ?_ _ | refine blk_drew ?_ | refine blk_alloc ?_ _) | refine blk_far ?_ NZ0.out _)); exact BK0.out)⟩, ⟨(by (repeat (first | (with_reducible first | refine blk_drewN ?_ _ | refine blk_drew ?_ | refine blk_alloc ?_ _) | refine blk_far ?_ NZ1.out _)); exact BK1.out)⟩, ⟨(by (repeat (first | (with_reducible first | refine blk_drewN ?_ _ | refine blk_drew ?_ | refine blk_alloc ?_ _) | refine blk_far ?_ NZ2.out _)); exact BK2.out)⟩, ⟨(by (repeat (first | (with_reducible first | refine blk_drewN ?_ _ | refine blk_drew ?_ | refine blk_alloc ?_ _) | refine blk_far ?_ NZ3.out _)); exact BK3.out)⟩, ⟨(by (repeat (first | (with_reducible first | refine blk_drewN ?_ _ | refine blk_drew ?_ | refine blk_alloc ?_ _) | refine blk_far ?_ NZ4.out _)); exact BK4.out)⟩, ⟨by repeat (first | (with_reducible first | exact HB.out | apply below_alloc | apply pw_below_drewN | apply below_drew1 | refine below_set ?_ GE0.out | refine below_set ?_ GE1.out | refine below_set ?_ GE2.out | refine below_set ?_ GE3.out | refine below_set ?_ GE4.out | refine below_set ?_ GEz.out) | exact HB.out)⟩⟩
         ·
          subst hbad
          have AF := Aside0.mk ((Fr.lawfine_eq (k := 4611686018427387912) (n := t264) (d := t265) (bad := false) (by omega)).trans (congrArg some hfi))
          have AR := Aside0.mk hri
          have AS := Aside0.mk hsa
          clear hfi hri hsa
          go_wp2_with ((with_reducible refine gate_callee (f := 13) rfl ?_); refine goesL_ (some 150) rfl rfl Try.func13 (by kernel_rfl) rfl #[.agg #[.int .i64 t264, .int .i64 t265, .bool false]] rfl (by (try simp only [List.map_toArray, List.map_cons, List.map_nil]); first | done | rfl | (simp only [List.length_drop, List.length_take]; rfl)) ?_; (with_reducible refine (coupletlaw04_fine.calls 4611686018427387912 t264 t265 false true _ AF.out).mono ?_); rintro e wf ⟨rfl, hb⟩; refine ⟨_, rfl, ?_⟩; have n0_ := Aside0.mk (blk_below (g := gb0) (o := .cells #[.int .i64 a0_0, .int .i64 a0_1, .bool a0_2] 23 (0, 0)) (by (repeat (first | (with_reducible first | refine blk_drewN ?_ _ | refine blk_drew ?_ | refine blk_alloc ?_ _) | refine blk_far ?_ NZ0.out _)); exact BK0.out) hb); have n1_ := Aside0.mk (blk_below (g := gb1) (o := .cells #[.int .i64 a1_0, .int .i64 a1_1, .bool a1_2] 23 (0, 0)) (by (repeat (first | (with_reducible first | refine blk_drewN ?_ _ | refine blk_drew ?_ | refine blk_alloc ?_ _) | refine blk_far ?_ NZ1.out _)); exact BK1.out) hb); have n2_ := Aside0.mk (blk_below (g := gb2) (o := .cells #[.int .i64 t264, .int .i64 t265, .bool false] 23 (0, 0)) (by (repeat (first | (with_reducible first | refine blk_drewN ?_ _ | refine blk_drew ?_ | refine blk_alloc ?_ _) | refine blk_far ?_ NZ2.out _)); exact BK2.out) hb); have n3_ := Aside0.mk (blk_below (g := gb3) (o := .cells #[.int .i64 t267, .int .i64 t268, .bool t269] 23 (0, 0)) (by (repeat (first | (with_reducible first | refine blk_drewN ?_ _ | refine blk_drew ?_ | refine blk_alloc ?_ _) | refine blk_far ?_ NZ3.out _)); exact BK3.out) hb); have n4_ := Aside0.mk (blk_below (g := gb4) (o := .cells #[.int .i64 t270, .int .i64 t271, .bool t272] 23 (0, 0)) (by (repeat (first | (with_reducible first | refine blk_drewN ?_ _ | refine blk_drew ?_ | refine blk_alloc ?_ _) | refine blk_far ?_ NZ4.out _)); exact BK4.out) hb); have n5_ := Aside0.mk (below_step (by repeat (first | (with_reducible first | exact HB.out | apply below_alloc | apply pw_below_drewN | apply below_drew1 | refine below_set ?_ GE0.out | refine below_set ?_ GE1.out | refine below_set ?_ GE2.out | refine below_set ?_ GE3.out | refine below_set ?_ GE4.out | refine below_set ?_ GEz.out) | exact HB.out)) hb); have n6_ := Aside0.mk (blk_below (g := gz) (o := .cells #[.int .i64 t264, .int .i64 t265, .bool false] 23 (0, 0)) (by (with_reducible repeat first | apply blk_drewN | apply blk_drew | apply blk_alloc); refine blk_put (cs := #[.int .i64 t264, .int .i64 t265, .bool false]) ?_ 2 _ rfl; (with_reducible repeat first | apply blk_drewN | apply blk_drew | apply blk_alloc); refine blk_put (cs := #[.int .i64 t264, .int .i64 0, .bool false]) ?_ 1 _ rfl; (with_reducible repeat first | apply blk_drewN | apply blk_drew | apply blk_alloc); refine blk_put (cs := #[.int .i64 0, .int .i64 0, .bool false]) ?_ 0 _ rfl; (with_reducible repeat first | apply blk_drewN | apply blk_drew | apply blk_alloc); exact BKz.out) hb); clear BK0 BK1 BK2 BK3 BK4 HB BKz hb; have BK0 := n0_; have BK1 := n1_; have BK2 := n2_; have BK3 := n3_; have BK4 := n4_; have HB := n5_; have BKz := n6_; clear n0_ n1_ n2_ n3_ n4_ n5_ n6_; have hcxwfz_0 : wf.cell? ⟨gz, 0, none⟩ = some (.int .i64 t264) := (blk_cell BKz.out 0).trans rfl; have hfxwfz_0 := blk_frozen BKz.out 0; have hcxwfz_1 : wf.cell? ⟨gz, 1, none⟩ = some (.int .i64 t265) := (blk_cell BKz.out 1).trans rfl; have hfxwfz_1 := blk_frozen BKz.out 1; have hcxwfz_2 : wf.cell? ⟨gz, 2, none⟩ = some (.bool false) := (blk_cell BKz.out 2).trans rfl; have hfxwfz_2 := blk_frozen BKz.out 2; have hcxwfa_0 : wf.cell? ⟨gb0, 0, none⟩ = some (.int .i64 a0_0) := (blk_cell BK0.out 0).trans rfl; have hfxwfa_0 := blk_frozen BK0.out 0; have hcxwfa_1 : wf.cell? ⟨gb0, 1, none⟩ = some (.int .i64 a0_1) := (blk_cell BK0.out 1).trans rfl; have hfxwfa_1 := blk_frozen BK0.out 1; have hcxwfa_2 : wf.cell? ⟨gb0, 2, none⟩ = some (.bool a0_2) := (blk_cell BK0.out 2).trans rfl; have hfxwfa_2 := blk_frozen BK0.out 2; have hcxwfb_0 : wf.cell? ⟨gb1, 0, none⟩ = some (.int .i64 a1_0) := (blk_cell BK1.out 0).trans rfl; have hfxwfb_0 := blk_frozen BK1.out 0; have hcxwfb_1 : wf.cell? ⟨gb1, 1, none⟩ = some (.int .i64 a1_1) := (blk_cell BK1.out 1).trans rfl; have hfxwfb_1 := blk_frozen BK1.out 1; have hcxwfb_2 : wf.cell? ⟨gb1, 2, none⟩ = some (.bool a1_2) := (blk_cell BK1.out 2).trans rfl; have hfxwfb_2 := blk_frozen BK1.out 2)
          refine (coupletref01_Right.calls (wrap64 (wrap64 (a0_0 * a1_1) + wrap64 (a1_0 * a0_1))) true _ AR.out).mono ?_
          rintro e wg ⟨rfl, hd_⟩
          have hb := hd_.below
          clear hd_
          have n0_ := Aside0.mk (blk_below (g := gb0) (o := .cells #[.int .i64 a0_0, .int .i64 a0_1, .bool a0_2] 23 (0, 0)) (by (repeat (first | (with_reducible first | refine blk_drewN ?_ _ | refine blk_drew ?_ | refine blk_alloc ?_ _) | refine blk_far ?_ NZ0.out _)); exact BK0.out) hb); have n1_ := Aside0.mk (blk_below (g := gb1) (o := .cells #[.int .i64 a1_0, .int .i64 a1_1, .bool a1_2] 23 (0, 0)) (by (repeat (first | (with_reducible first | refine blk_drewN ?_ _ | refine blk_drew ?_ | refine blk_alloc ?_ _) | refine blk_far ?_ NZ1.out _)); exact BK1.out) hb); have n2_ := Aside0.mk (blk_below (g := gb2) (o := .cells #[.int .i64 t264, .int .i64 t265, .bool false] 23 (0, 0)) (by (repeat (first | (with_reducible first | refine blk_drewN ?_ _ | refine blk_drew ?_ | refine blk_alloc ?_ _) | refine blk_far ?_ NZ2.out _)); exact BK2.out) hb); have n3_ := Aside0.mk (blk_below (g := gb3) (o := .cells #[.int .i64 t267, .int .i64 t268, .bool t269] 23 (0, 0)) (by (repeat (first | (with_reducible first | refine blk_drewN ?_ _ | refine blk_drew ?_ | refine blk_alloc ?_ _) | refine blk_far ?_ NZ3.out _)); exact BK3.out) hb); have n4_ := Aside0.mk (blk_below (g := gb4) (o := .cells #[.int .i64 t270, .int .i64 t271, .bool t272] 23 (0, 0)) (by (repeat (first | (with_reducible first | refine blk_drewN ?_ _ | refine blk_drew ?_ | refine blk_alloc ?_ _) | refine blk_far ?_ NZ4.out _)); exact BK4.out) hb); have n5_ := Aside0.mk (below_step (by repeat (first | (with_reducible first | exact HB.out | apply below_alloc | apply pw_below_drewN | apply below_drew1 | refine below_set ?_ GE0.out | refine below_set ?_ GE1.out | refine below_set ?_ GE2.out | refine below_set ?_ GE3.out | refine below_set ?_ GE4.out | refine below_set ?_ GEz.out) | exact HB.out)) hb); have n6_ := Aside0.mk (blk_below (g := gz) (o := .cells #[.int .i64 t264, .int .i64 t265, .bool false] 23 (0, 0)) (by (with_reducible repeat first | apply blk_drewN | apply blk_drew | apply blk_alloc); exact BKz.out) hb); clear BK0 BK1 BK2 BK3 BK4 HB BKz hb; have BK0 := n0_; have BK1 := n1_; have BK2 := n2_; have BK3 := n3_; have BK4 := n4_; have HB := n5_; have BKz := n6_; clear n0_ n1_ n2_ n3_ n4_ n5_ n6_; have hcxwgz_0 : wg.cell? ⟨gz, 0, none⟩ = some (.int .i64 t264) := (blk_cell BKz.out 0).trans rfl; have hfxwgz_0 := blk_frozen BKz.out 0; have hcxwgz_1 : wg.cell? ⟨gz, 1, none⟩ = some (.int .i64 t265) := (blk_cell BKz.out 1).trans rfl; have hfxwgz_1 := blk_frozen BKz.out 1; have hcxwgz_2 : wg.cell? ⟨gz, 2, none⟩ = some (.bool false) := (blk_cell BKz.out 2).trans rfl; have hfxwgz_2 := blk_frozen BKz.out 2; have hcxwga_0 : wg.cell? ⟨gb0, 0, none⟩ = some (.int .i64 a0_0) := (blk_cell BK0.out 0).trans rfl; have hfxwga_0 := blk_frozen BK0.out 0; have hcxwga_1 : wg.cell? ⟨gb0, 1, none⟩ = some (.int .i64 a0_1) := (blk_cell BK0.out 1).trans rfl; have hfxwga_1 := blk_frozen BK0.out 1; have hcxwga_2 : wg.cell? ⟨gb0, 2, none⟩ = some (.bool a0_2) := (blk_cell BK0.out 2).trans rfl; have hfxwga_2 := blk_frozen BK0.out 2; have hcxwgb_0 : wg.cell? ⟨gb1, 0, none⟩ = some (.int .i64 a1_0) := (blk_cell BK1.out 0).trans rfl; have hfxwgb_0 := blk_frozen BK1.out 0; have hcxwgb_1 : wg.cell? ⟨gb1, 1, none⟩ = some (.int .i64 a1_1) := (blk_cell BK1.out 1).trans rfl; have hfxwgb_1 := blk_frozen BK1.out 1; have hcxwgb_2 : wg.cell? ⟨gb1, 2, none⟩ = some (.bool a1_2) := (blk_cell BK1.out 2).trans rfl; have hfxwgb_2 := blk_frozen BK1.out 2
          repeat (first | go_values | go_skip | go_guarded | go_step | go_upon | go_back | (simp only [Int.not_lt, Int.not_le] at *; go_simp))
          refine (coupletref04_Same.calls 3000 (wrap64 (wrap64 (a0_0 * a1_1) + wrap64 (a1_0 * a0_1))) (wrap64 (a0_1 * a1_1)) t264 t265 true _ AS.out).mono ?_
          rintro e wh ⟨rfl, hb⟩
          have n0_ := Aside0.mk (blk_below (g := gb0) (o := .cells #[.int .i64 a0_0, .int .i64 a0_1, .bool a0_2] 23 (0, 0)) (by (repeat (first | (with_reducible first | refine blk_drewN ?_ _ | refine blk_drew ?_ | refine blk_alloc ?_ _) | refine blk_far ?_ NZ0.out _)); exact BK0.out) hb); have n1_ := Aside0.mk (blk_below (g := gb1) (o := .cells #[.int .i64 a1_0, .int .i64 a1_1, .bool a1_2] 23 (0, 0)) (by (repeat (first | (with_reducible first | refine blk_drewN ?_ _ | refine blk_drew ?_ | refine blk_alloc ?_ _) | refine blk_far ?_ NZ1.out _)); exact BK1.out) hb); have n2_ := Aside0.mk (blk_below (g := gb2) (o := .cells #[.int .i64 t264, .int .i64 t265, .bool false] 23 (0, 0)) (by (repeat (first | (with_reducible first | refine blk_drewN ?_ _ | refine blk_drew ?_ | refine blk_alloc ?_ _) | refine blk_far ?_ NZ2.out _)); exact BK2.out) hb); have n3_ := Aside0.mk (blk_below (g := gb3) (o := .cells #[.int .i64 t267, .int .i64 t268, .bool t269] 23 (0, 0)) (by (repeat (first | (with_reducible first | refine blk_drewN ?_ _ | refine blk_drew ?_ | refine blk_alloc ?_ _) | refine blk_far ?_ NZ3.out _)); exact BK3.out) hb); have n4_ := Aside0.mk (blk_below (g := gb4) (o := .cells #[.int .i64 t270, .int .i64 t271, .bool t272] 23 (0, 0)) (by (repeat (first | (with_reducible first | refine blk_drewN ?_ _ | refine blk_drew ?_ | refine blk_alloc ?_ _) | refine blk_far ?_ NZ4.out _)); exact BK4.out) hb); have n5_ := Aside0.mk (below_step (by repeat (first | (with_reducible first | exact HB.out | apply below_alloc | apply pw_below_drewN | apply below_drew1 | refine below_set ?_ GE0.out | refine below_set ?_ GE1.out | refine below_set ?_ GE2.out | refine below_set ?_ GE3.out | refine below_set ?_ GE4.out | refine below_set ?_ GEz.out) | exact HB.out)) hb); have n6_ := Aside0.mk (blk_below (g := gz) (o := .cells #[.int .i64 t264, .int .i64 t265, .bool false] 23 (0, 0)) (by (with_reducible repeat first | apply blk_drewN | apply blk_drew | apply blk_alloc); exact BKz.out) hb); clear BK0 BK1 BK2 BK3 BK4 HB BKz hb; have BK0 := n0_; have BK1 := n1_; have BK2 := n2_; have BK3 := n3_; have BK4 := n4_; have HB := n5_; have BKz := n6_; clear n0_ n1_ n2_ n3_ n4_ n5_ n6_; have hcxwhz_0 : wh.cell? ⟨gz, 0, none⟩ = some (.int .i64 t264) := (blk_cell BKz.out 0).trans rfl; have hfxwhz_0 := blk_frozen BKz.out 0; have hcxwhz_1 : wh.cell? ⟨gz, 1, none⟩ = some (.int .i64 t265) := (blk_cell BKz.out 1).trans rfl; have hfxwhz_1 := blk_frozen BKz.out 1; have hcxwhz_2 : wh.cell? ⟨gz, 2, none⟩ = some (.bool false) := (blk_cell BKz.out 2).trans rfl; have hfxwhz_2 := blk_frozen BKz.out 2; have hcxwha_0 : wh.cell? ⟨gb0, 0, none⟩ = some (.int .i64 a0_0) := (blk_cell BK0.out 0).trans rfl; have hfxwha_0 := blk_frozen BK0.out 0; have hcxwha_1 : wh.cell? ⟨gb0, 1, none⟩ = some (.int .i64 a0_1) := (blk_cell BK0.out 1).trans rfl; have hfxwha_1 := blk_frozen BK0.out 1; have hcxwha_2 : wh.cell? ⟨gb0, 2, none⟩ = some (.bool a0_2) := (blk_cell BK0.out 2).trans rfl; have hfxwha_2 := blk_frozen BK0.out 2; have hcxwhb_0 : wh.cell? ⟨gb1, 0, none⟩ = some (.int .i64 a1_0) := (blk_cell BK1.out 0).trans rfl; have hfxwhb_0 := blk_frozen BK1.out 0; have hcxwhb_1 : wh.cell? ⟨gb1, 1, none⟩ = some (.int .i64 a1_1) := (blk_cell BK1.out 1).trans rfl; have hfxwhb_1 := blk_frozen BK1.out 1; have hcxwhb_2 : wh.cell? ⟨gb1, 2, none⟩ = some (.bool a1_2) := (blk_cell BK1.out 2).trans rfl; have hfxwhb_2 := blk_frozen BK1.out 2
          repeat (first | go_values | go_skip | go_guarded | go_step | go_upon | go_back | (simp only [Int.not_lt, Int.not_le] at *; go_simp))
          go_roundg (gk - 1)
          case measure => have := HI.out; omega
          case rel => exact ⟨1, (by first | rfl | (simp; done)), ⟨by omega, by have := HI.out; omega⟩, ⟨(by (repeat (first | (with_reducible first | refine blk_drewN ?_ _ | refine blk_drew ?_ | refine blk_alloc ?_ _) | refine blk_far ?_ NZ0.out _)); exact BK0.out)⟩, ⟨(by (repeat (first | (with_reducible first | refine blk_drewN ?_ _ | refine blk_drew ?_ | refine blk_alloc ?_ _) | refine blk_far ?_ NZ1.out _)); exact BK1.out)⟩, ⟨(by (repeat (first | (with_reducible first | refine blk_drewN ?_ _ | refine blk_drew ?_ | refine blk_alloc ?_ _) | refine blk_far ?_ NZ2.out _)); exact BK2.out)⟩, ⟨(by (repeat (first | (with_reducible first | refine blk_drewN ?_ _ | refine blk_drew ?_ | refine blk_alloc ?_ _) | refine blk_far ?_ NZ3.out _)); exact BK3.out)⟩, ⟨(by (repeat (first | (with_reducible first | refine blk_drewN ?_ _ | refine blk_drew ?_ | refine blk_alloc ?_ _) | refine blk_far ?_ NZ4.out _)); exact BK4.out)⟩, ⟨by repeat (first | (with_reducible first | exact HB.out | apply below_alloc | apply pw_below_drewN | apply below_drew1 | refine below_set ?_ GE0.out | refine below_set ?_ GE1.out | refine below_set ?_ GE2.out | refine below_set ?_ GE3.out | refine below_set ?_ GE4.out | refine below_set ?_ GEz.out) | exact HB.out)⟩⟩
        ·
         go_upto_region 9 with (((with_reducible refine gate_dst (N := 9) rfl ?_); refine box_event ?hg (N := 9) ?hd (cs := #[.int .i64 0, .int .i64 0, .bool false]) (t := 23) ?hr ?_; (case hd => rfl); (case hg => rfl); (case hr => first | (go_simp; done) | (go_simp; rfl)); intro gz hg wz hbox hb; have n0_ := Aside0.mk (blk_below (g := gb0) (o := .cells #[.int .i64 a0_0, .int .i64 a0_1, .bool a0_2] 23 (0, 0)) (by (with_reducible repeat first | apply blk_drewN | apply blk_drew | apply blk_alloc); exact BK0.out) hb); have n1_ := Aside0.mk (blk_below (g := gb1) (o := .cells #[.int .i64 a1_0, .int .i64 a1_1, .bool a1_2] 23 (0, 0)) (by (with_reducible repeat first | apply blk_drewN | apply blk_drew | apply blk_alloc); exact BK1.out) hb); have n2_ := Aside0.mk (blk_below (g := gb2) (o := .cells #[.int .i64 t264, .int .i64 t265, .bool t266] 23 (0, 0)) (by (with_reducible repeat first | apply blk_drewN | apply blk_drew | apply blk_alloc); exact BK2.out) hb); have n3_ := Aside0.mk (blk_below (g := gb3) (o := .cells #[.int .i64 t267, .int .i64 t268, .bool t269] 23 (0, 0)) (by (with_reducible repeat first | apply blk_drewN | apply blk_drew | apply blk_alloc); exact BK3.out) hb); have n4_ := Aside0.mk (blk_below (g := gb4) (o := .cells #[.int .i64 t270, .int .i64 t271, .bool t272] 23 (0, 0)) (by (with_reducible repeat first | apply blk_drewN | apply blk_drew | apply blk_alloc); exact BK4.out) hb); have n5_ := Aside0.mk (below_step (by repeat (first | (with_reducible first | exact HB.out | apply below_alloc | apply pw_below_drewN | apply below_drew1 | refine below_set ?_ GE0.out | refine below_set ?_ GE1.out | refine below_set ?_ GE2.out | refine below_set ?_ GE3.out | refine below_set ?_ GE4.out) | exact HB.out)) hb); have n6_ := Aside0.mk hbox; have n7_ := Aside0.mk (by rw [hg]; exact below_size (by repeat (first | (with_reducible first | exact HB.out | apply below_alloc | apply pw_below_drewN | apply below_drew1 | refine below_set ?_ GE0.out | refine below_set ?_ GE1.out | refine below_set ?_ GE2.out | refine below_set ?_ GE3.out | refine below_set ?_ GE4.out) | exact HB.out)) : w.heap.size ≤ gz); have NZ0 := Aside0.mk (by rw [hg]; exact Nat.ne_of_lt (blk_lt (g := gb0) (o := .cells #[.int .i64 a0_0, .int .i64 a0_1, .bool a0_2] 23 (0, 0)) (by (with_reducible repeat first | apply blk_drewN | apply blk_drew | apply blk_alloc); exact BK0.out)) : gb0 ≠ gz); have NZ1 := Aside0.mk (by rw [hg]; exact Nat.ne_of_lt (blk_lt (g := gb1) (o := .cells #[.int .i64 a1_0, .int .i64 a1_1, .bool a1_2] 23 (0, 0)) (by (with_reducible repeat first | apply blk_drewN | apply blk_drew | apply blk_alloc); exact BK1.out)) : gb1 ≠ gz); have NZ2 := Aside0.mk (by rw [hg]; exact Nat.ne_of_lt (blk_lt (g := gb2) (o := .cells #[.int .i64 t264, .int .i64 t265, .bool t266] 23 (0, 0)) (by (with_reducible repeat first | apply blk_drewN | apply blk_drew | apply blk_alloc); exact BK2.out)) : gb2 ≠ gz); have NZ3 := Aside0.mk (by rw [hg]; exact Nat.ne_of_lt (blk_lt (g := gb3) (o := .cells #[.int .i64 t267, .int .i64 t268, .bool t269] 23 (0, 0)) (by (with_reducible repeat first | apply blk_drewN | apply blk_drew | apply blk_alloc); exact BK3.out)) : gb3 ≠ gz); have NZ4 := Aside0.mk (by rw [hg]; exact Nat.ne_of_lt (blk_lt (g := gb4) (o := .cells #[.int .i64 t270, .int .i64 t271, .bool t272] 23 (0, 0)) (by (with_reducible repeat first | apply blk_drewN | apply blk_drew | apply blk_alloc); exact BK4.out)) : gb4 ≠ gz); clear BK0 BK1 BK2 BK3 BK4 HB hb hbox hg; have BK0 := n0_; have BK1 := n1_; have BK2 := n2_; have BK3 := n3_; have BK4 := n4_; have HB := n5_; have BKz := n6_; have GEz := n7_; clear n0_ n1_ n2_ n3_ n4_ n5_ n6_ n7_; have hna := NZ0.out; have hna' := NZ0.out.symm; have hnb := NZ1.out; have hnb' := NZ1.out.symm; have hcxz_0 : wz.cell? ⟨gz, 0, none⟩ = some (.int .i64 0) := (blk_cell BKz.out 0).trans rfl; have hfxz_0 := blk_frozen BKz.out 0; have hcxz_1 : wz.cell? ⟨gz, 1, none⟩ = some (.int .i64 0) := (blk_cell BKz.out 1).trans rfl; have hfxz_1 := blk_frozen BKz.out 1; have hcxz_2 : wz.cell? ⟨gz, 2, none⟩ = some (.bool false) := (blk_cell BKz.out 2).trans rfl; have hfxz_2 := blk_frozen BKz.out 2; have hcxza_0 : wz.cell? ⟨gb0, 0, none⟩ = some (.int .i64 a0_0) := (blk_cell BK0.out 0).trans rfl; have hfxza_0 := blk_frozen BK0.out 0; have hcxza_1 : wz.cell? ⟨gb0, 1, none⟩ = some (.int .i64 a0_1) := (blk_cell BK0.out 1).trans rfl; have hfxza_1 := blk_frozen BK0.out 1; have hcxza_2 : wz.cell? ⟨gb0, 2, none⟩ = some (.bool a0_2) := (blk_cell BK0.out 2).trans rfl; have hfxza_2 := blk_frozen BK0.out 2; have hcxzb_0 : wz.cell? ⟨gb1, 0, none⟩ = some (.int .i64 a1_0) := (blk_cell BK1.out 0).trans rfl; have hfxzb_0 := blk_frozen BK1.out 0; have hcxzb_1 : wz.cell? ⟨gb1, 1, none⟩ = some (.int .i64 a1_1) := (blk_cell BK1.out 1).trans rfl; have hfxzb_1 := blk_frozen BK1.out 1; have hcxzb_2 : wz.cell? ⟨gb1, 2, none⟩ = some (.bool a1_2) := (blk_cell BK1.out 2).trans rfl; have hfxzb_2 := blk_frozen BK1.out 2))
         (try simp only [Act.put, List.setIfInBounds_toArray, List.set_cons_zero, List.set_cons_succ])
         rcases Rhy.out with hbad | ⟨hbad, hfi, hri, hsa⟩
         ·
          subst hbad
          repeat (first | go_values | go_skip | go_guarded | go_step | go_upon | go_back | (simp only [Int.not_lt, Int.not_le] at *; go_simp))
          go_roundg (gk - 1)
          case measure => have := HI.out; omega
          case rel => exact ⟨2, (by first | rfl | (simp; done)), ⟨by omega, by have := HI.out; omega⟩, ⟨(by (repeat (first | (with_reducible first | refine blk_drewN ?_ _ | refine blk_drew ?_ | refine blk_alloc ?_ _) | refine blk_far ?_ NZ0.out _)); exact BK0.out)⟩, ⟨(by (repeat (first | (with_reducible first | refine blk_drewN ?_ _ | refine blk_drew ?_ | refine blk_alloc ?_ _) | refine blk_far ?_ NZ1.out _)); exact BK1.out)⟩, ⟨(by (repeat (first | (with_reducible first | refine blk_drewN ?_ _ | refine blk_drew ?_ | refine blk_alloc ?_ _) | refine blk_far ?_ NZ2.out _)); exact BK2.out)⟩, ⟨(by (repeat (first | (with_reducible first | refine blk_drewN ?_ _ | refine blk_drew ?_ | refine blk_alloc ?_ _) | refine blk_far ?_ NZ3.out _)); exact BK3.out)⟩, ⟨(by (repeat (first | (with_reducible first | refine blk_drewN ?_ _ | refine blk_drew ?_ | refine blk_alloc ?_ _) | refine blk_far ?_ NZ4.out _)); exact BK4.out)⟩, ⟨by repeat (first | (with_reducible first | exact HB.out | apply below_alloc | apply pw_below_drewN | apply below_drew1 | refine below_set ?_ GE0.out | refine below_set ?_ GE1.out | refine below_set ?_ GE2.out | refine below_set ?_ GE3.out | refine below_set ?_ GE4.out | refine below_set ?_ GEz.out) | exact HB.out)⟩⟩
         ·
          subst hbad
          have AF := Aside0.mk ((Fr.lawfine_eq (k := 4611686018427387912) (n := t267) (d := t268) (bad := false) (by omega)).trans (congrArg some hfi))
          have AR := Aside0.mk hri
          have AS := Aside0.mk hsa
          clear hfi hri hsa
          go_wp2_with ((with_reducible refine gate_callee (f := 13) rfl ?_); refine goesL_ (some 150) rfl rfl Try.func13 (by kernel_rfl) rfl #[.agg #[.int .i64 t267, .int .i64 t268, .bool false]] rfl (by (try simp only [List.map_toArray, List.map_cons, List.map_nil]); first | done | rfl | (simp only [List.length_drop, List.length_take]; rfl)) ?_; (with_reducible refine (coupletlaw04_fine.calls 4611686018427387912 t267 t268 false true _ AF.out).mono ?_); rintro e wf ⟨rfl, hb⟩; refine ⟨_, rfl, ?_⟩; have n0_ := Aside0.mk (blk_below (g := gb0) (o := .cells #[.int .i64 a0_0, .int .i64 a0_1, .bool a0_2] 23 (0, 0)) (by (repeat (first | (with_reducible first | refine blk_drewN ?_ _ | refine blk_drew ?_ | refine blk_alloc ?_ _) | refine blk_far ?_ NZ0.out _)); exact BK0.out) hb); have n1_ := Aside0.mk (blk_below (g := gb1) (o := .cells #[.int .i64 a1_0, .int .i64 a1_1, .bool a1_2] 23 (0, 0)) (by (repeat (first | (with_reducible first | refine blk_drewN ?_ _ | refine blk_drew ?_ | refine blk_alloc ?_ _) | refine blk_far ?_ NZ1.out _)); exact BK1.out) hb); have n2_ := Aside0.mk (blk_below (g := gb2) (o := .cells #[.int .i64 t264, .int .i64 t265, .bool t266] 23 (0, 0)) (by (repeat (first | (with_reducible first | refine blk_drewN ?_ _ | refine blk_drew ?_ | refine blk_alloc ?_ _) | refine blk_far ?_ NZ2.out _)); exact BK2.out) hb); have n3_ := Aside0.mk (blk_below (g := gb3) (o := .cells #[.int .i64 t267, .int .i64 t268, .bool false] 23 (0, 0)) (by (repeat (first | (with_reducible first | refine blk_drewN ?_ _ | refine blk_drew ?_ | refine blk_alloc ?_ _) | refine blk_far ?_ NZ3.out _)); exact BK3.out) hb); have n4_ := Aside0.mk (blk_below (g := gb4) (o := .cells #[.int .i64 t270, .int .i64 t271, .bool t272] 23 (0, 0)) (by (repeat (first | (with_reducible first | refine blk_drewN ?_ _ | refine blk_drew ?_ | refine blk_alloc ?_ _) | refine blk_far ?_ NZ4.out _)); exact BK4.out) hb); have n5_ := Aside0.mk (below_step (by repeat (first | (with_reducible first | exact HB.out | apply below_alloc | apply pw_below_drewN | apply below_drew1 | refine below_set ?_ GE0.out | refine below_set ?_ GE1.out | refine below_set ?_ GE2.out | refine below_set ?_ GE3.out | refine below_set ?_ GE4.out | refine below_set ?_ GEz.out) | exact HB.out)) hb); have n6_ := Aside0.mk (blk_below (g := gz) (o := .cells #[.int .i64 t267, .int .i64 t268, .bool false] 23 (0, 0)) (by (with_reducible repeat first | apply blk_drewN | apply blk_drew | apply blk_alloc); refine blk_put (cs := #[.int .i64 t267, .int .i64 t268, .bool false]) ?_ 2 _ rfl; (with_reducible repeat first | apply blk_drewN | apply blk_drew | apply blk_alloc); refine blk_put (cs := #[.int .i64 t267, .int .i64 0, .bool false]) ?_ 1 _ rfl; (with_reducible repeat first | apply blk_drewN | apply blk_drew | apply blk_alloc); refine blk_put (cs := #[.int .i64 0, .int .i64 0, .bool false]) ?_ 0 _ rfl; (with_reducible repeat first | apply blk_drewN | apply blk_drew | apply blk_alloc); exact BKz.out) hb); clear BK0 BK1 BK2 BK3 BK4 HB BKz hb; have BK0 := n0_; have BK1 := n1_; have BK2 := n2_; have BK3 := n3_; have BK4 := n4_; have HB := n5_; have BKz := n6_; clear n0_ n1_ n2_ n3_ n4_ n5_ n6_; have hcxwfz_0 : wf.cell? ⟨gz, 0, none⟩ = some (.int .i64 t267) := (blk_cell BKz.out 0).trans rfl; have hfxwfz_0 := blk_frozen BKz.out 0; have hcxwfz_1 : wf.cell? ⟨gz, 1, none⟩ = some (.int .i64 t268) := (blk_cell BKz.out 1).trans rfl; have hfxwfz_1 := blk_frozen BKz.out 1; have hcxwfz_2 : wf.cell? ⟨gz, 2, none⟩ = some (.bool false) := (blk_cell BKz.out 2).trans rfl; have hfxwfz_2 := blk_frozen BKz.out 2; have hcxwfa_0 : wf.cell? ⟨gb0, 0, none⟩ = some (.int .i64 a0_0) := (blk_cell BK0.out 0).trans rfl; have hfxwfa_0 := blk_frozen BK0.out 0; have hcxwfa_1 : wf.cell? ⟨gb0, 1, none⟩ = some (.int .i64 a0_1) := (blk_cell BK0.out 1).trans rfl; have hfxwfa_1 := blk_frozen BK0.out 1; have hcxwfa_2 : wf.cell? ⟨gb0, 2, none⟩ = some (.bool a0_2) := (blk_cell BK0.out 2).trans rfl; have hfxwfa_2 := blk_frozen BK0.out 2; have hcxwfb_0 : wf.cell? ⟨gb1, 0, none⟩ = some (.int .i64 a1_0) := (blk_cell BK1.out 0).trans rfl; have hfxwfb_0 := blk_frozen BK1.out 0; have hcxwfb_1 : wf.cell? ⟨gb1, 1, none⟩ = some (.int .i64 a1_1) := (blk_cell BK1.out 1).trans rfl; have hfxwfb_1 := blk_frozen BK1.out 1; have hcxwfb_2 : wf.cell? ⟨gb1, 2, none⟩ = some (.bool a1_2) := (blk_cell BK1.out 2).trans rfl; have hfxwfb_2 := blk_frozen BK1.out 2)
          refine (coupletref01_Right.calls (wrap64 (wrap64 (a0_0 * a1_1) + wrap64 (wrap64 (-a1_0) * a0_1))) true _ AR.out).mono ?_
          rintro e wg ⟨rfl, hd_⟩
          have hb := hd_.below
          clear hd_
          have n0_ := Aside0.mk (blk_below (g := gb0) (o := .cells #[.int .i64 a0_0, .int .i64 a0_1, .bool a0_2] 23 (0, 0)) (by (repeat (first | (with_reducible first | refine blk_drewN ?_ _ | refine blk_drew ?_ | refine blk_alloc ?_ _) | refine blk_far ?_ NZ0.out _)); exact BK0.out) hb); have n1_ := Aside0.mk (blk_below (g := gb1) (o := .cells #[.int .i64 a1_0, .int .i64 a1_1, .bool a1_2] 23 (0, 0)) (by (repeat (first | (with_reducible first | refine blk_drewN ?_ _ | refine blk_drew ?_ | refine blk_alloc ?_ _) | refine blk_far ?_ NZ1.out _)); exact BK1.out) hb); have n2_ := Aside0.mk (blk_below (g := gb2) (o := .cells #[.int .i64 t264, .int .i64 t265, .bool t266] 23 (0, 0)) (by (repeat (first | (with_reducible first | refine blk_drewN ?_ _ | refine blk_drew ?_ | refine blk_alloc ?_ _) | refine blk_far ?_ NZ2.out _)); exact BK2.out) hb); have n3_ := Aside0.mk (blk_below (g := gb3) (o := .cells #[.int .i64 t267, .int .i64 t268, .bool false] 23 (0, 0)) (by (repeat (first | (with_reducible first | refine blk_drewN ?_ _ | refine blk_drew ?_ | refine blk_alloc ?_ _) | refine blk_far ?_ NZ3.out _)); exact BK3.out) hb); have n4_ := Aside0.mk (blk_below (g := gb4) (o := .cells #[.int .i64 t270, .int .i64 t271, .bool t272] 23 (0, 0)) (by (repeat (first | (with_reducible first | refine blk_drewN ?_ _ | refine blk_drew ?_ | refine blk_alloc ?_ _) | refine blk_far ?_ NZ4.out _)); exact BK4.out) hb); have n5_ := Aside0.mk (below_step (by repeat (first | (with_reducible first | exact HB.out | apply below_alloc | apply pw_below_drewN | apply below_drew1 | refine below_set ?_ GE0.out | refine below_set ?_ GE1.out | refine below_set ?_ GE2.out | refine below_set ?_ GE3.out | refine below_set ?_ GE4.out | refine below_set ?_ GEz.out) | exact HB.out)) hb); have n6_ := Aside0.mk (blk_below (g := gz) (o := .cells #[.int .i64 t267, .int .i64 t268, .bool false] 23 (0, 0)) (by (with_reducible repeat first | apply blk_drewN | apply blk_drew | apply blk_alloc); exact BKz.out) hb); clear BK0 BK1 BK2 BK3 BK4 HB BKz hb; have BK0 := n0_; have BK1 := n1_; have BK2 := n2_; have BK3 := n3_; have BK4 := n4_; have HB := n5_; have BKz := n6_; clear n0_ n1_ n2_ n3_ n4_ n5_ n6_; have hcxwgz_0 : wg.cell? ⟨gz, 0, none⟩ = some (.int .i64 t267) := (blk_cell BKz.out 0).trans rfl; have hfxwgz_0 := blk_frozen BKz.out 0; have hcxwgz_1 : wg.cell? ⟨gz, 1, none⟩ = some (.int .i64 t268) := (blk_cell BKz.out 1).trans rfl; have hfxwgz_1 := blk_frozen BKz.out 1; have hcxwgz_2 : wg.cell? ⟨gz, 2, none⟩ = some (.bool false) := (blk_cell BKz.out 2).trans rfl; have hfxwgz_2 := blk_frozen BKz.out 2; have hcxwga_0 : wg.cell? ⟨gb0, 0, none⟩ = some (.int .i64 a0_0) := (blk_cell BK0.out 0).trans rfl; have hfxwga_0 := blk_frozen BK0.out 0; have hcxwga_1 : wg.cell? ⟨gb0, 1, none⟩ = some (.int .i64 a0_1) := (blk_cell BK0.out 1).trans rfl; have hfxwga_1 := blk_frozen BK0.out 1; have hcxwga_2 : wg.cell? ⟨gb0, 2, none⟩ = some (.bool a0_2) := (blk_cell BK0.out 2).trans rfl; have hfxwga_2 := blk_frozen BK0.out 2; have hcxwgb_0 : wg.cell? ⟨gb1, 0, none⟩ = some (.int .i64 a1_0) := (blk_cell BK1.out 0).trans rfl; have hfxwgb_0 := blk_frozen BK1.out 0; have hcxwgb_1 : wg.cell? ⟨gb1, 1, none⟩ = some (.int .i64 a1_1) := (blk_cell BK1.out 1).trans rfl; have hfxwgb_1 := blk_frozen BK1.out 1; have hcxwgb_2 : wg.cell? ⟨gb1, 2, none⟩ = some (.bool a1_2) := (blk_cell BK1.out 2).trans rfl; have hfxwgb_2 := blk_frozen BK1.out 2
          repeat (first | go_values | go_skip | go_guarded | go_step | go_upon | go_back | (simp only [Int.not_lt, Int.not_le] at *; go_simp))
          refine (coupletref04_Same.calls 3000 (wrap64 (wrap64 (a0_0 * a1_1) + wrap64 (wrap64 (-a1_0) * a0_1))) (wrap64 (a0_1 * a1_1)) t267 t268 true _ AS.out).mono ?_
          rintro e wh ⟨rfl, hb⟩
          have n0_ := Aside0.mk (blk_below (g := gb0) (o := .cells #[.int .i64 a0_0, .int .i64 a0_1, .bool a0_2] 23 (0, 0)) (by (repeat (first | (with_reducible first | refine blk_drewN ?_ _ | refine blk_drew ?_ | refine blk_alloc ?_ _) | refine blk_far ?_ NZ0.out _)); exact BK0.out) hb); have n1_ := Aside0.mk (blk_below (g := gb1) (o := .cells #[.int .i64 a1_0, .int .i64 a1_1, .bool a1_2] 23 (0, 0)) (by (repeat (first | (with_reducible first | refine blk_drewN ?_ _ | refine blk_drew ?_ | refine blk_alloc ?_ _) | refine blk_far ?_ NZ1.out _)); exact BK1.out) hb); have n2_ := Aside0.mk (blk_below (g := gb2) (o := .cells #[.int .i64 t264, .int .i64 t265, .bool t266] 23 (0, 0)) (by (repeat (first | (with_reducible first | refine blk_drewN ?_ _ | refine blk_drew ?_ | refine blk_alloc ?_ _) | refine blk_far ?_ NZ2.out _)); exact BK2.out) hb); have n3_ := Aside0.mk (blk_below (g := gb3) (o := .cells #[.int .i64 t267, .int .i64 t268, .bool false] 23 (0, 0)) (by (repeat (first | (with_reducible first | refine blk_drewN ?_ _ | refine blk_drew ?_ | refine blk_alloc ?_ _) | refine blk_far ?_ NZ3.out _)); exact BK3.out) hb); have n4_ := Aside0.mk (blk_below (g := gb4) (o := .cells #[.int .i64 t270, .int .i64 t271, .bool t272] 23 (0, 0)) (by (repeat (first | (with_reducible first | refine blk_drewN ?_ _ | refine blk_drew ?_ | refine blk_alloc ?_ _) | refine blk_far ?_ NZ4.out _)); exact BK4.out) hb); have n5_ := Aside0.mk (below_step (by repeat (first | (with_reducible first | exact HB.out | apply below_alloc | apply pw_below_drewN | apply below_drew1 | refine below_set ?_ GE0.out | refine below_set ?_ GE1.out | refine below_set ?_ GE2.out | refine below_set ?_ GE3.out | refine below_set ?_ GE4.out | refine below_set ?_ GEz.out) | exact HB.out)) hb); have n6_ := Aside0.mk (blk_below (g := gz) (o := .cells #[.int .i64 t267, .int .i64 t268, .bool false] 23 (0, 0)) (by (with_reducible repeat first | apply blk_drewN | apply blk_drew | apply blk_alloc); exact BKz.out) hb); clear BK0 BK1 BK2 BK3 BK4 HB BKz hb; have BK0 := n0_; have BK1 := n1_; have BK2 := n2_; have BK3 := n3_; have BK4 := n4_; have HB := n5_; have BKz := n6_; clear n0_ n1_ n2_ n3_ n4_ n5_ n6_; have hcxwhz_0 : wh.cell? ⟨gz, 0, none⟩ = some (.int .i64 t267) := (blk_cell BKz.out 0).trans rfl; have hfxwhz_0 := blk_frozen BKz.out 0; have hcxwhz_1 : wh.cell? ⟨gz, 1, none⟩ = some (.int .i64 t268) := (blk_cell BKz.out 1).trans rfl; have hfxwhz_1 := blk_frozen BKz.out 1; have hcxwhz_2 : wh.cell? ⟨gz, 2, none⟩ = some (.bool false) := (blk_cell BKz.out 2).trans rfl; have hfxwhz_2 := blk_frozen BKz.out 2; have hcxwha_0 : wh.cell? ⟨gb0, 0, none⟩ = some (.int .i64 a0_0) := (blk_cell BK0.out 0).trans rfl; have hfxwha_0 := blk_frozen BK0.out 0; have hcxwha_1 : wh.cell? ⟨gb0, 1, none⟩ = some (.int .i64 a0_1) := (blk_cell BK0.out 1).trans rfl; have hfxwha_1 := blk_frozen BK0.out 1; have hcxwha_2 : wh.cell? ⟨gb0, 2, none⟩ = some (.bool a0_2) := (blk_cell BK0.out 2).trans rfl; have hfxwha_2 := blk_frozen BK0.out 2; have hcxwhb_0 : wh.cell? ⟨gb1, 0, none⟩ = some (.int .i64 a1_0) := (blk_cell BK1.out 0).trans rfl; have hfxwhb_0 := blk_frozen BK1.out 0; have hcxwhb_1 : wh.cell? ⟨gb1, 1, none⟩ = some (.int .i64 a1_1) := (blk_cell BK1.out 1).trans rfl; have hfxwhb_1 := blk_frozen BK1.out 1; have hcxwhb_2 : wh.cell? ⟨gb1, 2, none⟩ = some (.bool a1_2) := (blk_cell BK1.out 2).trans rfl; have hfxwhb_2 := blk_frozen BK1.out 2
          repeat (first | go_values | go_skip | go_guarded | go_step | go_upon | go_back | (simp only [Int.not_lt, Int.not_le] at *; go_simp))
          go_roundg (gk - 1)
          case measure => have := HI.out; omega
          case rel => exact ⟨2, (by first | rfl | (simp; done)), ⟨by omega, by have := HI.out; omega⟩, ⟨(by (repeat (first | (with_reducible first | refine blk_drewN ?_ _ | refine blk_drew ?_ | refine blk_alloc ?_ _) | refine blk_far ?_ NZ0.out _)); exact BK0.out)⟩, ⟨(by (repeat (first | (with_reducible first | refine blk_drewN ?_ _ | refine blk_drew ?_ | refine blk_alloc ?_ _) | refine blk_far ?_ NZ1.out _)); exact BK1.out)⟩, ⟨(by (repeat (first | (with_reducible first | refine blk_drewN ?_ _ | refine blk_drew ?_ | refine blk_alloc ?_ _) | refine blk_far ?_ NZ2.out _)); exact BK2.out)⟩, ⟨(by (repeat (first | (with_reducible first | refine blk_drewN ?_ _ | refine blk_drew ?_ | refine blk_alloc ?_ _) | refine blk_far ?_ NZ3.out _)); exact BK3.out)⟩, ⟨(by (repeat (first | (with_reducible first | refine blk_drewN ?_ _ | refine blk_drew ?_ | refine blk_alloc ?_ _) | refine blk_far ?_ NZ4.out _)); exact BK4.out)⟩, ⟨by repeat (first | (with_reducible first | exact HB.out | apply below_alloc | apply pw_below_drewN | apply below_drew1 | refine below_set ?_ GE0.out | refine below_set ?_ GE1.out | refine below_set ?_ GE2.out | refine below_set ?_ GE3.out | refine below_set ?_ GE4.out | refine below_set ?_ GEz.out) | exact HB.out)⟩⟩
        ·
         go_upto_region 17 with (fail)
         have H := HJ.out
         clear HJ
         by_cases c179 : a0_1 = a1_1
         ·
          rw [if_pos c179] at H
          have c179b0 : (a0_1 == a1_1) = true := beq_iff_eq.mpr c179
          have c179b1 : (a0_1 != a1_1) = false := bne_eq_false_iff_eq.mpr c179
          clear c179
          replace H := Option.bind_eq_some_iff.mp H
          obtain ⟨⟨t287, t288, t289⟩, A1800, H⟩ := H
          try dsimp only at H
          have A180 := Aside0.mk A1800
          clear A1800
          by_cases c181 : (t266 == t289) = true
          ·
           rw [if_pos c181] at H
           have c181b0 : (t266 == t289) = true := c181
           (try (have c181b1 : decide (t266 = t289) = true := by simpa using c181))
           (try (have c181b2 : (t266 == t289) = true := by simpa using c181))
           clear c181
           replace H := Option.bind_eq_some_iff.mp H
           obtain ⟨⟨t290, t291, t292⟩, A1820, H⟩ := H
           replace H : (if (t269 == t292) = true then ((coupletlaw04_awake.f kj158).bind fun t293 => (some t293)) else (some false)) = some r := H
           have A182 := Aside0.mk A1820
           clear A1820
           by_cases c183 : (t269 == t292) = true
           ·
            rw [if_pos c183] at H
            have c183b0 : (t269 == t292) = true := c183
            (try (have c183b1 : decide (t269 = t292) = true := by simpa using c183))
            (try (have c183b2 : (t269 == t292) = true := by simpa using c183))
            clear c183
            replace H := Option.bind_eq_some_iff.mp H
            obtain ⟨t293, A1840, H⟩ := H
            replace H : (some t293) = some r := H
            have A184 := Aside0.mk A1840
            clear A1840
            obtain rfl := Option.some.inj H
            try go_wp2
            have n0_ := Aside0.mk (blk_drew BK0.out)
            have n1_ := Aside0.mk (blk_drew BK1.out)
            have n2_ := Aside0.mk (blk_drew BK2.out)
            have n3_ := Aside0.mk (blk_drew BK3.out)
            have n4_ := Aside0.mk (blk_drew BK4.out)
            have n5_ := Aside0.mk (below_drew1 HB.out)
            clear BK0
            clear BK1
            clear BK2
            clear BK3
            clear BK4
            clear HB
            have BK0 := n0_
            have BK1 := n1_
            have BK2 := n2_
            have BK3 := n3_
            have BK4 := n4_
            have HB := n5_
            clear n0_ n1_ n2_ n3_ n4_ n5_
            refine start_ (n := 44) (S := fun w' => w'.cell? ⟨gb0, 0, none⟩ = some (.int .i64 a0_0) ∧ w'.cell? ⟨gb0, 1, none⟩ = some (.int .i64 a0_1) ∧ w'.cell? ⟨gb0, 2, none⟩ = some (.bool a0_2) ∧ w'.cell? ⟨gb1, 0, none⟩ = some (.int .i64 a1_0) ∧ w'.cell? ⟨gb1, 1, none⟩ = some (.int .i64 a1_1) ∧ w'.cell? ⟨gb1, 2, none⟩ = some (.bool a1_2) ∧ w'.cell? ⟨gb2, 0, none⟩ = some (.int .i64 t264) ∧ w'.cell? ⟨gb2, 1, none⟩ = some (.int .i64 t265) ∧ w'.cell? ⟨gb2, 2, none⟩ = some (.bool t266) ∧ w'.cell? ⟨gb3, 0, none⟩ = some (.int .i64 t267) ∧ w'.cell? ⟨gb3, 1, none⟩ = some (.int .i64 t268) ∧ w'.cell? ⟨gb3, 2, none⟩ = some (.bool t269)) (ds := []) #[O,O,O,O,O,O,O,O,O,O,O,O,O,O,O,O,O,O,O,O,O,O,O,O,O,O,O,O,O,O,O,O,O,O,O,O,O,O,O,O,O,O,O,O] (by kernel_rfl) rfl rfl ⟨(blk_cell BK0.out 0).trans rfl, (blk_cell BK0.out 1).trans rfl, (blk_cell BK0.out 2).trans rfl, (blk_cell BK1.out 0).trans rfl, (blk_cell BK1.out 1).trans rfl, (blk_cell BK1.out 2).trans rfl, (blk_cell BK2.out 0).trans rfl, (blk_cell BK2.out 1).trans rfl, (blk_cell BK2.out 2).trans rfl, (blk_cell BK3.out 0).trans rfl, (blk_cell BK3.out 1).trans rfl, (blk_cell BK3.out 2).trans rfl⟩ (fun hHeld => ?_); refine with_tabW tab17 bits17 (fun HT_ HW_ => ?_)
            generalize wr.drew = w185 at BK0 BK1 BK2 BK3 BK4 HB hHeld ⊢
            refine pure_ (i := 0) (N := some 172) (v := ?_) (a' := ?_) #[I,O,O,O,O,O,O,O,O,O,O,O,O,O,O,O,O,O,O,O,O,O,O,O,O,O,O,O,O,O,O,O,O,O,O,O,O,O,O,O,O,O,O,O] rfl rfl (any_of HT_.out (by kernel_rfl)) (fun _ _ _ h => h) (Or.inl ⟨by rfl, ?_⟩) ?_ ?_
            rotate_left
            ·
             intro w'
             go_simp
             with_reducible rfl
            rotate_left
            ·
             simp only [Act.put, List.setIfInBounds_toArray, List.set_cons_zero, List.set_cons_succ, i64_w]
             rfl
            refine pure_ (i := 2) (N := some 174) (v := ?_) (a' := ?_) #[I,O,I,O,O,O,O,O,O,O,O,O,O,O,O,O,O,O,O,O,O,O,O,O,O,O,O,O,O,O,O,O,O,O,O,O,O,O,O,O,O,O,O,O] rfl rfl (any_of HT_.out (by kernel_rfl)) (fun _ _ _ h => h) (Or.inl ⟨by rfl, ?_⟩) ?_ ?_
            rotate_left
            ·
             intro w'
             go_simp
             with_reducible rfl
            rotate_left
            ·
             simp only [Act.put, List.setIfInBounds_toArray, List.set_cons_zero, List.set_cons_succ, i64_w]
             rfl
            refine take_ (i := 1) (N := some 173) (v := ?_) (a' := ?_) #[I,I,I,O,O,O,O,O,O,O,O,O,O,O,O,O,O,O,O,O,O,O,O,O,O,O,O,O,O,O,O,O,O,O,O,O,O,O,O,O,O,O,O,O] rfl rfl (take_ofW HT_.out HW_.out (by kernel_rfl)) (fun _ _ _ h => h) (Or.inl ⟨by rfl, ?_⟩) hHeld ?_ ?_
            rotate_left
            ·
             rintro w' ⟨s0, s1, s2, s3, s4, s5, s6, s7, s8, s9, s10, s11⟩
             go_simp
             with_reducible rfl
            rotate_left
            ·
             simp only [Act.put, List.setIfInBounds_toArray, List.set_cons_zero, List.set_cons_succ, i64_w]
             rfl
            refine take_ (i := 3) (N := some 175) (v := ?_) (a' := ?_) #[I,I,I,I,O,O,O,O,O,O,O,O,O,O,O,O,O,O,O,O,O,O,O,O,O,O,O,O,O,O,O,O,O,O,O,O,O,O,O,O,O,O,O,O] rfl rfl (take_ofW HT_.out HW_.out (by kernel_rfl)) (fun _ _ _ h => h) (Or.inl ⟨by rfl, ?_⟩) hHeld ?_ ?_
            rotate_left
            ·
             rintro w' ⟨s0, s1, s2, s3, s4, s5, s6, s7, s8, s9, s10, s11⟩
             go_simp
             with_reducible rfl
            rotate_left
            ·
             simp only [Act.put, List.setIfInBounds_toArray, List.set_cons_zero, List.set_cons_succ, i64_w]
             rfl
            refine pure_ (i := 4) (N := some 176) (v := ?_) (a' := ?_) #[I,I,I,I,I,O,O,O,O,O,O,O,O,O,O,O,O,O,O,O,O,O,O,O,O,O,O,O,O,O,O,O,O,O,O,O,O,O,O,O,O,O,O,O] rfl rfl (any_of HT_.out (by kernel_rfl)) (fun _ _ _ h => h) (Or.inl ⟨by rfl, ?_⟩) ?_ ?_
            rotate_left
            ·
             intro w'
             go_simp
             with_reducible rfl
            rotate_left
            ·
             simp only [Act.put, List.setIfInBounds_toArray, List.set_cons_zero, List.set_cons_succ, i64_w]
             rfl
            refine pure_ (i := 5) (N := some 177) (v := ?_) (a' := ?_) #[I,I,I,I,I,I,O,O,O,O,O,O,O,O,O,O,O,O,O,O,O,O,O,O,O,O,O,O,O,O,O,O,O,O,O,O,O,O,O,O,O,O,O,O] rfl rfl (any_of HT_.out (by kernel_rfl)) (fun _ _ _ h => h) (Or.inl ⟨by rfl, ?_⟩) ?_ ?_
            rotate_left
            ·
             intro w'
             go_simp
             with_reducible rfl
            rotate_left
            ·
             simp only [Act.put, List.setIfInBounds_toArray, List.set_cons_zero, List.set_cons_succ, i64_w]
             rfl
            refine pure_ (i := 6) (N := some 178) (v := ?_) (a' := ?_) #[I,I,I,I,I,I,I,O,O,O,O,O,O,O,O,O,O,O,O,O,O,O,O,O,O,O,O,O,O,O,O,O,O,O,O,O,O,O,O,O,O,O,O,O] rfl rfl (any_of HT_.out (by kernel_rfl)) (fun _ _ _ h => h) (Or.inl ⟨by rfl, ?_⟩) ?_ ?_
            rotate_left
            ·
             intro w'
             go_simp
             with_reducible rfl
            rotate_left
            ·
             simp only [Act.put, List.setIfInBounds_toArray, List.set_cons_zero, List.set_cons_succ, i64_w]
             rfl
            refine pure_ (i := 8) (N := some 180) (v := ?_) (a' := ?_) #[I,I,I,I,I,I,I,O,I,O,O,O,O,O,O,O,O,O,O,O,O,O,O,O,O,O,O,O,O,O,O,O,O,O,O,O,O,O,O,O,O,O,O,O] rfl rfl (any_of HT_.out (by kernel_rfl)) (fun _ _ _ h => h) (Or.inl ⟨by rfl, ?_⟩) ?_ ?_
            rotate_left
            ·
             intro w'
             go_simp
             with_reducible rfl
            rotate_left
            ·
             simp only [Act.put, List.setIfInBounds_toArray, List.set_cons_zero, List.set_cons_succ, i64_w]
             rfl
            refine pure_ (i := 10) (N := some 182) (v := ?_) (a' := ?_) #[I,I,I,I,I,I,I,O,I,O,I,O,O,O,O,O,O,O,O,O,O,O,O,O,O,O,O,O,O,O,O,O,O,O,O,O,O,O,O,O,O,O,O,O] rfl rfl (any_of HT_.out (by kernel_rfl)) (fun _ _ _ h => h) (Or.inl ⟨by rfl, ?_⟩) ?_ ?_
            rotate_left
            ·
             intro w'
             go_simp
             with_reducible rfl
            rotate_left
            ·
             simp only [Act.put, List.setIfInBounds_toArray, List.set_cons_zero, List.set_cons_succ, i64_w]
             rfl
            refine pure_ (i := 13) (N := some 185) (v := ?_) (a' := ?_) #[I,I,I,I,I,I,I,O,I,O,I,O,O,I,O,O,O,O,O,O,O,O,O,O,O,O,O,O,O,O,O,O,O,O,O,O,O,O,O,O,O,O,O,O] rfl rfl (any_of HT_.out (by kernel_rfl)) (fun _ _ _ h => h) (Or.inl ⟨by rfl, ?_⟩) ?_ ?_
            rotate_left
            ·
             intro w'
             go_simp
             with_reducible rfl
            rotate_left
            ·
             simp only [Act.put, List.setIfInBounds_toArray, List.set_cons_zero, List.set_cons_succ, i64_w]
             rfl
            refine take_ (i := 7) (N := some 179) (v := ?_) (a' := ?_) #[I,I,I,I,I,I,I,I,I,O,I,O,O,I,O,O,O,O,O,O,O,O,O,O,O,O,O,O,O,O,O,O,O,O,O,O,O,O,O,O,O,O,O,O] rfl rfl (take_ofW HT_.out HW_.out (by kernel_rfl)) (fun _ _ _ h => h) (Or.inl ⟨by rfl, ?_⟩) hHeld ?_ ?_
            rotate_left
            ·
             rintro w' ⟨s0, s1, s2, s3, s4, s5, s6, s7, s8, s9, s10, s11⟩
             go_simp
             with_reducible rfl
            rotate_left
            ·
             simp only [Act.put, List.setIfInBounds_toArray, List.set_cons_zero, List.set_cons_succ, i64_w]
             rfl
            refine take_ (i := 9) (N := some 181) (v := ?_) (a' := ?_) #[I,I,I,I,I,I,I,I,I,I,I,O,O,I,O,O,O,O,O,O,O,O,O,O,O,O,O,O,O,O,O,O,O,O,O,O,O,O,O,O,O,O,O,O] rfl rfl (take_ofW HT_.out HW_.out (by kernel_rfl)) (fun _ _ _ h => h) (Or.inl ⟨by rfl, ?_⟩) hHeld ?_ ?_
            rotate_left
            ·
             rintro w' ⟨s0, s1, s2, s3, s4, s5, s6, s7, s8, s9, s10, s11⟩
             go_simp
             with_reducible rfl
            rotate_left
            ·
             simp only [Act.put, List.setIfInBounds_toArray, List.set_cons_zero, List.set_cons_succ, i64_w]
             rfl
            refine take_ (i := 11) (N := some 183) (v := ?_) (a' := ?_) #[I,I,I,I,I,I,I,I,I,I,I,I,O,I,O,O,O,O,O,O,O,O,O,O,O,O,O,O,O,O,O,O,O,O,O,O,O,O,O,O,O,O,O,O] rfl rfl (take_ofW HT_.out HW_.out (by kernel_rfl)) (fun _ _ _ h => h) (Or.inl ⟨by rfl, ?_⟩) hHeld ?_ ?_
            rotate_left
            ·
             rintro w' ⟨s0, s1, s2, s3, s4, s5, s6, s7, s8, s9, s10, s11⟩
             go_simp
             with_reducible rfl
            rotate_left
            ·
             simp only [Act.put, List.setIfInBounds_toArray, List.set_cons_zero, List.set_cons_succ, i64_w]
             rfl
            refine pure_ (i := 12) (N := some 184) (v := ?_) (a' := ?_) #[I,I,I,I,I,I,I,I,I,I,I,I,I,I,O,O,O,O,O,O,O,O,O,O,O,O,O,O,O,O,O,O,O,O,O,O,O,O,O,O,O,O,O,O] rfl rfl (any_of HT_.out (by kernel_rfl)) (fun _ _ _ h => h) (Or.inl ⟨by rfl, ?_⟩) ?_ ?_
            rotate_left
            ·
             intro w'
             go_simp
             with_reducible rfl
            rotate_left
            ·
             simp only [Act.put, List.setIfInBounds_toArray, List.set_cons_zero, List.set_cons_succ, i64_w]
             rfl
            refine take_ (i := 14) (N := some 186) (v := ?_) (a' := ?_) #[I,I,I,I,I,I,I,I,I,I,I,I,I,I,I,O,O,O,O,O,O,O,O,O,O,O,O,O,O,O,O,O,O,O,O,O,O,O,O,O,O,O,O,O] rfl rfl (take_ofW HT_.out HW_.out (by kernel_rfl)) (fun _ _ _ h => h) (Or.inl ⟨by rfl, ?_⟩) hHeld ?_ ?_
            rotate_left
            ·
             rintro w' ⟨s0, s1, s2, s3, s4, s5, s6, s7, s8, s9, s10, s11⟩
             go_simp
             with_reducible rfl
            rotate_left
            ·
             simp only [Act.put, List.setIfInBounds_toArray, List.set_cons_zero, List.set_cons_succ, i64_w]
             rfl
            refine one_ (i := 15) (N := some 187) #[I,I,I,I,I,I,I,I,I,I,I,I,I,I,I,I,O,O,O,O,O,O,O,O,O,O,O,O,O,O,O,O,O,O,O,O,O,O,O,O,O,O,O,O] rfl rfl (one_of HT_.out (by kernel_rfl)) (by decide) (fun K hK => ?_)
            refine goes_ Try.func10 (by kernel_rfl) rfl #[.int .i64 (wrap64 (a0_0 + a1_0)), .int .i64 a0_1] (by rfl) rfl rfl (by (try simp only [List.map_toArray, List.map_cons, List.map_nil]); first | done | rfl | (simp only [List.length_drop, List.length_take]; rfl)) ?_
            with_reducible refine (frac_New.calls kj158 (wrap64 (a0_0 + a1_0)) a0_1 t287 t288 t289 _ A180.out).mono ?_
            rintro e w186 ⟨rfl, hb⟩
            refine ⟨_, rfl, ?_⟩
            have n0_ := Aside0.mk (blk_below (g := gb0) (o := .cells #[.int .i64 a0_0, .int .i64 a0_1, .bool a0_2] 23 (0, 0)) (by (with_reducible repeat first | apply blk_drewN | apply blk_drew | apply blk_alloc); exact BK0.out) hb)
            have n1_ := Aside0.mk (blk_below (g := gb1) (o := .cells #[.int .i64 a1_0, .int .i64 a1_1, .bool a1_2] 23 (0, 0)) (by (with_reducible repeat first | apply blk_drewN | apply blk_drew | apply blk_alloc); exact BK1.out) hb)
            have n2_ := Aside0.mk (blk_below (g := gb2) (o := .cells #[.int .i64 t264, .int .i64 t265, .bool t266] 23 (0, 0)) (by (with_reducible repeat first | apply blk_drewN | apply blk_drew | apply blk_alloc); exact BK2.out) hb)
            have n3_ := Aside0.mk (blk_below (g := gb3) (o := .cells #[.int .i64 t267, .int .i64 t268, .bool t269] 23 (0, 0)) (by (with_reducible repeat first | apply blk_drewN | apply blk_drew | apply blk_alloc); exact BK3.out) hb)
            have n4_ := Aside0.mk (blk_below (g := gb4) (o := .cells #[.int .i64 t270, .int .i64 t271, .bool t272] 23 (0, 0)) (by (with_reducible repeat first | apply blk_drewN | apply blk_drew | apply blk_alloc); exact BK4.out) hb)
            have n5_ := Aside0.mk (below_step (by repeat (first | (with_reducible first | exact HB.out | apply below_alloc | apply pw_below_drewN | apply below_drew1 | refine below_set ?_ GE0.out | refine below_set ?_ GE1.out | refine below_set ?_ GE2.out | refine below_set ?_ GE3.out | refine below_set ?_ GE4.out) | exact HB.out)) hb)
            clear BK0
            clear BK1
            clear BK2
            clear BK3
            clear BK4
            clear HB
            have BK0 := n0_
            have BK1 := n1_
            have BK2 := n2_
            have BK3 := n3_
            have BK4 := n4_
            have HB := n5_
            clear n0_ n1_ n2_ n3_ n4_ n5_
            (try clear hb)
            (try clear hb2)
            (try clear hk)
            (try clear hi)
            refine hK.out _ _ ⟨(blk_cell BK0.out 0).trans rfl, (blk_cell BK0.out 1).trans rfl, (blk_cell BK0.out 2).trans rfl, (blk_cell BK1.out 0).trans rfl, (blk_cell BK1.out 1).trans rfl, (blk_cell BK1.out 2).trans rfl, (blk_cell BK2.out 0).trans rfl, (blk_cell BK2.out 1).trans rfl, (blk_cell BK2.out 2).trans rfl, (blk_cell BK3.out 0).trans rfl, (blk_cell BK3.out 1).trans rfl, (blk_cell BK3.out 2).trans rfl⟩ (fun hHeld => ?_)
            clear hK K
            refine norm_ (a' := ?_) ?_ ?_
            rotate_left
            ·
             show Act.put _ (some 187) _ = _
             simp only [Act.put, List.setIfInBounds_toArray, List.set_cons_zero, List.set_cons_succ, i64_w]
             rfl
            refine pure_ (i := 16) (N := some 188) (v := ?_) (a' := ?_) #[I,I,I,I,I,I,I,I,I,I,I,I,I,I,I,I,I,O,O,O,O,O,O,O,O,O,O,O,O,O,O,O,O,O,O,O,O,O,O,O,O,O,O,O] rfl rfl (any_of HT_.out (by kernel_rfl)) (fun _ _ _ h => h) (Or.inl ⟨by rfl, ?_⟩) ?_ ?_
            rotate_left
            ·
             intro w'
             go_simp
             with_reducible rfl
            rotate_left
            ·
             simp only [Act.put, List.setIfInBounds_toArray, List.set_cons_zero, List.set_cons_succ, i64_w]
             rfl
            refine pure_ (i := 17) (N := some 189) (v := ?_) (a' := ?_) #[I,I,I,I,I,I,I,I,I,I,I,I,I,I,I,I,I,I,O,O,O,O,O,O,O,O,O,O,O,O,O,O,O,O,O,O,O,O,O,O,O,O,O,O] rfl rfl (any_of HT_.out (by kernel_rfl)) (fun _ _ _ h => h) (Or.inl ⟨by rfl, ?_⟩) ?_ ?_
            rotate_left
            ·
             intro w'
             go_simp
             with_reducible rfl
            rotate_left
            ·
             simp only [Act.put, List.setIfInBounds_toArray, List.set_cons_zero, List.set_cons_succ, i64_w]
             rfl
            refine pure_ (i := 18) (N := some 190) (v := ?_) (a' := ?_) #[I,I,I,I,I,I,I,I,I,I,I,I,I,I,I,I,I,I,I,O,O,O,O,O,O,O,O,O,O,O,O,O,O,O,O,O,O,O,O,O,O,O,O,O] rfl rfl (any_of HT_.out (by kernel_rfl)) (fun _ _ _ h => h) (Or.inl ⟨by rfl, ?_⟩) ?_ ?_
            rotate_left
            ·
             intro w'
             go_simp
             with_reducible rfl
            rotate_left
            ·
             simp only [Act.put, List.setIfInBounds_toArray, List.set_cons_zero, List.set_cons_succ, i64_w]
             rfl
            refine pure_ (i := 19) (N := some 191) (v := ?_) (a' := ?_) #[I,I,I,I,I,I,I,I,I,I,I,I,I,I,I,I,I,I,I,I,O,O,O,O,O,O,O,O,O,O,O,O,O,O,O,O,O,O,O,O,O,O,O,O] rfl rfl (any_of HT_.out (by kernel_rfl)) (fun _ _ _ h => h) (Or.inl ⟨by rfl, ?_⟩) ?_ ?_
            rotate_left
            ·
             intro w'
             go_simp
             with_reducible rfl
            rotate_left
            ·
             simp only [Act.put, List.setIfInBounds_toArray, List.set_cons_zero, List.set_cons_succ, i64_w]
             rfl
            refine pure_ (i := 20) (N := some 192) (v := ?_) (a' := ?_) #[I,I,I,I,I,I,I,I,I,I,I,I,I,I,I,I,I,I,I,I,I,O,O,O,O,O,O,O,O,O,O,O,O,O,O,O,O,O,O,O,O,O,O,O] rfl rfl (any_of HT_.out (by kernel_rfl)) (fun _ _ _ h => h) (Or.inl ⟨by rfl, ?_⟩) ?_ ?_
            rotate_left
            ·
             intro w'
             go_simp
             with_reducible rfl
            rotate_left
            ·
             simp only [Act.put, List.setIfInBounds_toArray, List.set_cons_zero, List.set_cons_succ, i64_w]
             rfl
            refine pure_ (i := 22) (N := some 194) (v := ?_) (a' := ?_) #[I,I,I,I,I,I,I,I,I,I,I,I,I,I,I,I,I,I,I,I,I,O,I,O,O,O,O,O,O,O,O,O,O,O,O,O,O,O,O,O,O,O,O,O] rfl rfl (any_of HT_.out (by kernel_rfl)) (fun _ _ _ h => h) (Or.inl ⟨by rfl, ?_⟩) ?_ ?_
            rotate_left
            ·
             intro w'
             go_simp
             with_reducible rfl
            rotate_left
            ·
             simp only [Act.put, List.setIfInBounds_toArray, List.set_cons_zero, List.set_cons_succ, i64_w]
             rfl
            refine take_ (i := 21) (N := some 193) (v := ?_) (a' := ?_) #[I,I,I,I,I,I,I,I,I,I,I,I,I,I,I,I,I,I,I,I,I,I,I,O,O,O,O,O,O,O,O,O,O,O,O,O,O,O,O,O,O,O,O,O] rfl rfl (take_ofW HT_.out HW_.out (by kernel_rfl)) (fun _ _ _ h => h) (Or.inl ⟨by rfl, ?_⟩) hHeld ?_ ?_
            rotate_left
            ·
             rintro w' ⟨s0, s1, s2, s3, s4, s5, s6, s7, s8, s9, s10, s11⟩
             go_simp
             with_reducible rfl
            rotate_left
            ·
             simp only [Act.put, List.setIfInBounds_toArray, List.set_cons_zero, List.set_cons_succ, i64_w]
             rfl
            refine take_ (i := 23) (N := some 195) (v := ?_) (a' := ?_) #[I,I,I,I,I,I,I,I,I,I,I,I,I,I,I,I,I,I,I,I,I,I,I,I,O,O,O,O,O,O,O,O,O,O,O,O,O,O,O,O,O,O,O,O] rfl rfl (take_ofW HT_.out HW_.out (by kernel_rfl)) (fun _ _ _ h => h) (Or.inl ⟨by rfl, ?_⟩) hHeld ?_ ?_
            rotate_left
            ·
             rintro w' ⟨s0, s1, s2, s3, s4, s5, s6, s7, s8, s9, s10, s11⟩
             go_simp
             with_reducible rfl
            rotate_left
            ·
             simp only [Act.put, List.setIfInBounds_toArray, List.set_cons_zero, List.set_cons_succ, i64_w]
             rfl
            refine pure_ (i := 24) (N := some 196) (v := ?_) (a' := ?_) #[I,I,I,I,I,I,I,I,I,I,I,I,I,I,I,I,I,I,I,I,I,I,I,I,I,O,O,O,O,O,O,O,O,O,O,O,O,O,O,O,O,O,O,O] rfl rfl (any_of HT_.out (by kernel_rfl)) (fun _ _ _ h => h) (Or.inl ⟨by rfl, ?_⟩) ?_ ?_
            rotate_left
            ·
             intro w'
             go_simp
             with_reducible rfl
            rotate_left
            ·
             simp only [Act.put, List.setIfInBounds_toArray, List.set_cons_zero, List.set_cons_succ, i64_w]
             rfl
            refine pure_ (i := 25) (N := some 197) (v := ?_) (a' := ?_) #[I,I,I,I,I,I,I,I,I,I,I,I,I,I,I,I,I,I,I,I,I,I,I,I,I,I,O,O,O,O,O,O,O,O,O,O,O,O,O,O,O,O,O,O] rfl rfl (any_of HT_.out (by kernel_rfl)) (fun _ _ _ h => h) (Or.inl ⟨by rfl, ?_⟩) ?_ ?_
            rotate_left
            ·
             intro w'
             go_simp
             with_reducible rfl
            rotate_left
            ·
             simp only [Act.put, List.setIfInBounds_toArray, List.set_cons_zero, List.set_cons_succ, i64_w]
             rfl
            refine pure_ (i := 26) (N := some 198) (v := ?_) (a' := ?_) #[I,I,I,I,I,I,I,I,I,I,I,I,I,I,I,I,I,I,I,I,I,I,I,I,I,I,I,O,O,O,O,O,O,O,O,O,O,O,O,O,O,O,O,O] rfl rfl (any_of HT_.out (by kernel_rfl)) (fun _ _ _ h => h) (Or.inl ⟨by rfl, ?_⟩) ?_ ?_
            rotate_left
            ·
             intro w'
             go_simp
             with_reducible rfl
            rotate_left
            ·
             simp only [Act.put, List.setIfInBounds_toArray, List.set_cons_zero, List.set_cons_succ, i64_w]
             rfl
            refine pure_ (i := 28) (N := some 200) (v := ?_) (a' := ?_) #[I,I,I,I,I,I,I,I,I,I,I,I,I,I,I,I,I,I,I,I,I,I,I,I,I,I,I,O,I,O,O,O,O,O,O,O,O,O,O,O,O,O,O,O] rfl rfl (any_of HT_.out (by kernel_rfl)) (fun _ _ _ h => h) (Or.inl ⟨by rfl, ?_⟩) ?_ ?_
            rotate_left
            ·
             intro w'
             go_simp
             with_reducible rfl
            rotate_left
            ·
             simp only [Act.put, List.setIfInBounds_toArray, List.set_cons_zero, List.set_cons_succ, i64_w]
             rfl
            refine pure_ (i := 30) (N := some 202) (v := ?_) (a' := ?_) #[I,I,I,I,I,I,I,I,I,I,I,I,I,I,I,I,I,I,I,I,I,I,I,I,I,I,I,O,I,O,I,O,O,O,O,O,O,O,O,O,O,O,O,O] rfl rfl (any_of HT_.out (by kernel_rfl)) (fun _ _ _ h => h) (Or.inl ⟨by rfl, ?_⟩) ?_ ?_
            rotate_left
            ·
             intro w'
             go_simp
             with_reducible rfl
            rotate_left
            ·
             simp only [Act.put, List.setIfInBounds_toArray, List.set_cons_zero, List.set_cons_succ, i64_w]
             rfl
            refine pure_ (i := 33) (N := some 205) (v := ?_) (a' := ?_) #[I,I,I,I,I,I,I,I,I,I,I,I,I,I,I,I,I,I,I,I,I,I,I,I,I,I,I,O,I,O,I,O,O,I,O,O,O,O,O,O,O,O,O,O] rfl rfl (any_of HT_.out (by kernel_rfl)) (fun _ _ _ h => h) (Or.inl ⟨by rfl, ?_⟩) ?_ ?_
            rotate_left
            ·
             intro w'
             go_simp
             with_reducible rfl
            rotate_left
            ·
             simp only [Act.put, List.setIfInBounds_toArray, List.set_cons_zero, List.set_cons_succ, i64_w]
             rfl
            refine take_ (i := 27) (N := some 199) (v := ?_) (a' := ?_) #[I,I,I,I,I,I,I,I,I,I,I,I,I,I,I,I,I,I,I,I,I,I,I,I,I,I,I,I,I,O,I,O,O,I,O,O,O,O,O,O,O,O,O,O] rfl rfl (take_ofW HT_.out HW_.out (by kernel_rfl)) (fun _ _ _ h => h) (Or.inl ⟨by rfl, ?_⟩) hHeld ?_ ?_
            rotate_left
            ·
             rintro w' ⟨s0, s1, s2, s3, s4, s5, s6, s7, s8, s9, s10, s11⟩
             go_simp
             with_reducible rfl
            rotate_left
            ·
             simp only [Act.put, List.setIfInBounds_toArray, List.set_cons_zero, List.set_cons_succ, i64_w]
             rfl
            refine take_ (i := 29) (N := some 201) (v := ?_) (a' := ?_) #[I,I,I,I,I,I,I,I,I,I,I,I,I,I,I,I,I,I,I,I,I,I,I,I,I,I,I,I,I,I,I,O,O,I,O,O,O,O,O,O,O,O,O,O] rfl rfl (take_ofW HT_.out HW_.out (by kernel_rfl)) (fun _ _ _ h => h) (Or.inl ⟨by rfl, ?_⟩) hHeld ?_ ?_
            rotate_left
            ·
             rintro w' ⟨s0, s1, s2, s3, s4, s5, s6, s7, s8, s9, s10, s11⟩
             go_simp
             with_reducible rfl
            rotate_left
            ·
             simp only [Act.put, List.setIfInBounds_toArray, List.set_cons_zero, List.set_cons_succ, i64_w]
             rfl
            refine take_ (i := 31) (N := some 203) (v := ?_) (a' := ?_) #[I,I,I,I,I,I,I,I,I,I,I,I,I,I,I,I,I,I,I,I,I,I,I,I,I,I,I,I,I,I,I,I,O,I,O,O,O,O,O,O,O,O,O,O] rfl rfl (take_ofW HT_.out HW_.out (by kernel_rfl)) (fun _ _ _ h => h) (Or.inl ⟨by rfl, ?_⟩) hHeld ?_ ?_
            rotate_left
            ·
             rintro w' ⟨s0, s1, s2, s3, s4, s5, s6, s7, s8, s9, s10, s11⟩
             go_simp
             with_reducible rfl
            rotate_left
            ·
             simp only [Act.put, List.setIfInBounds_toArray, List.set_cons_zero, List.set_cons_succ, i64_w]
             rfl
            refine pure_ (i := 32) (N := some 204) (v := ?_) (a' := ?_) #[I,I,I,I,I,I,I,I,I,I,I,I,I,I,I,I,I,I,I,I,I,I,I,I,I,I,I,I,I,I,I,I,I,I,O,O,O,O,O,O,O,O,O,O] rfl rfl (any_of HT_.out (by kernel_rfl)) (fun _ _ _ h => h) (Or.inl ⟨by rfl, ?_⟩) ?_ ?_
            rotate_left
            ·
             intro w'
             go_simp
             with_reducible rfl
            rotate_left
            ·
             simp only [Act.put, List.setIfInBounds_toArray, List.set_cons_zero, List.set_cons_succ, i64_w]
             rfl
            refine take_ (i := 34) (N := some 206) (v := ?_) (a' := ?_) #[I,I,I,I,I,I,I,I,I,I,I,I,I,I,I,I,I,I,I,I,I,I,I,I,I,I,I,I,I,I,I,I,I,I,I,O,O,O,O,O,O,O,O,O] rfl rfl (take_ofW HT_.out HW_.out (by kernel_rfl)) (fun _ _ _ h => h) (Or.inl ⟨by rfl, ?_⟩) hHeld ?_ ?_
            rotate_left
            ·
             rintro w' ⟨s0, s1, s2, s3, s4, s5, s6, s7, s8, s9, s10, s11⟩
             go_simp
             with_reducible rfl
            rotate_left
            ·
             simp only [Act.put, List.setIfInBounds_toArray, List.set_cons_zero, List.set_cons_succ, i64_w]
             rfl
            refine one_ (i := 35) (N := some 207) #[I,I,I,I,I,I,I,I,I,I,I,I,I,I,I,I,I,I,I,I,I,I,I,I,I,I,I,I,I,I,I,I,I,I,I,I,O,O,O,O,O,O,O,O] rfl rfl (one_of HT_.out (by kernel_rfl)) (by decide) (fun K hK => ?_)
            refine goes_ Try.func10 (by kernel_rfl) rfl #[.int .i64 (wrap64 (a0_0 - a1_0)), .int .i64 a0_1] (by rfl) rfl rfl (by (try simp only [List.map_toArray, List.map_cons, List.map_nil]); first | done | rfl | (simp only [List.length_drop, List.length_take]; rfl)) ?_
            with_reducible refine (frac_New.calls kj158 (wrap64 (a0_0 - a1_0)) a0_1 t290 t291 t292 _ A182.out).mono ?_
            rintro e w187 ⟨rfl, hb⟩
            refine ⟨_, rfl, ?_⟩
            have n0_ := Aside0.mk (blk_below (g := gb0) (o := .cells #[.int .i64 a0_0, .int .i64 a0_1, .bool a0_2] 23 (0, 0)) (by (with_reducible repeat first | apply blk_drewN | apply blk_drew | apply blk_alloc); exact BK0.out) hb)
            have n1_ := Aside0.mk (blk_below (g := gb1) (o := .cells #[.int .i64 a1_0, .int .i64 a1_1, .bool a1_2] 23 (0, 0)) (by (with_reducible repeat first | apply blk_drewN | apply blk_drew | apply blk_alloc); exact BK1.out) hb)
            have n2_ := Aside0.mk (blk_below (g := gb2) (o := .cells #[.int .i64 t264, .int .i64 t265, .bool t266] 23 (0, 0)) (by (with_reducible repeat first | apply blk_drewN | apply blk_drew | apply blk_alloc); exact BK2.out) hb)
            have n3_ := Aside0.mk (blk_below (g := gb3) (o := .cells #[.int .i64 t267, .int .i64 t268, .bool t269] 23 (0, 0)) (by (with_reducible repeat first | apply blk_drewN | apply blk_drew | apply blk_alloc); exact BK3.out) hb)
            have n4_ := Aside0.mk (blk_below (g := gb4) (o := .cells #[.int .i64 t270, .int .i64 t271, .bool t272] 23 (0, 0)) (by (with_reducible repeat first | apply blk_drewN | apply blk_drew | apply blk_alloc); exact BK4.out) hb)
            have n5_ := Aside0.mk (below_step (by repeat (first | (with_reducible first | exact HB.out | apply below_alloc | apply pw_below_drewN | apply below_drew1 | refine below_set ?_ GE0.out | refine below_set ?_ GE1.out | refine below_set ?_ GE2.out | refine below_set ?_ GE3.out | refine below_set ?_ GE4.out) | exact HB.out)) hb)
            clear BK0
            clear BK1
            clear BK2
            clear BK3
            clear BK4
            clear HB
            have BK0 := n0_
            have BK1 := n1_
            have BK2 := n2_
            have BK3 := n3_
            have BK4 := n4_
            have HB := n5_
            clear n0_ n1_ n2_ n3_ n4_ n5_
            (try clear hb)
            (try clear hb2)
            (try clear hk)
            (try clear hi)
            refine hK.out _ _ ⟨(blk_cell BK0.out 0).trans rfl, (blk_cell BK0.out 1).trans rfl, (blk_cell BK0.out 2).trans rfl, (blk_cell BK1.out 0).trans rfl, (blk_cell BK1.out 1).trans rfl, (blk_cell BK1.out 2).trans rfl, (blk_cell BK2.out 0).trans rfl, (blk_cell BK2.out 1).trans rfl, (blk_cell BK2.out 2).trans rfl, (blk_cell BK3.out 0).trans rfl, (blk_cell BK3.out 1).trans rfl, (blk_cell BK3.out 2).trans rfl⟩ (fun hHeld => ?_)
            clear hK K
            refine norm_ (a' := ?_) ?_ ?_
            rotate_left
            ·
             show Act.put _ (some 207) _ = _
             simp only [Act.put, List.setIfInBounds_toArray, List.set_cons_zero, List.set_cons_succ, i64_w]
             rfl
            refine pure_ (i := 36) (N := some 208) (v := ?_) (a' := ?_) #[I,I,I,I,I,I,I,I,I,I,I,I,I,I,I,I,I,I,I,I,I,I,I,I,I,I,I,I,I,I,I,I,I,I,I,I,I,O,O,O,O,O,O,O] rfl rfl (any_of HT_.out (by kernel_rfl)) (fun _ _ _ h => h) (Or.inl ⟨by rfl, ?_⟩) ?_ ?_
            rotate_left
            ·
             intro w'
             go_simp
             with_reducible rfl
            rotate_left
            ·
             simp only [Act.put, List.setIfInBounds_toArray, List.set_cons_zero, List.set_cons_succ, i64_w]
             rfl
            refine pure_ (i := 37) (N := some 209) (v := ?_) (a' := ?_) #[I,I,I,I,I,I,I,I,I,I,I,I,I,I,I,I,I,I,I,I,I,I,I,I,I,I,I,I,I,I,I,I,I,I,I,I,I,I,O,O,O,O,O,O] rfl rfl (any_of HT_.out (by kernel_rfl)) (fun _ _ _ h => h) (Or.inl ⟨by rfl, ?_⟩) ?_ ?_
            rotate_left
            ·
             intro w'
             go_simp
             with_reducible rfl
            rotate_left
            ·
             simp only [Act.put, List.setIfInBounds_toArray, List.set_cons_zero, List.set_cons_succ, i64_w]
             rfl
            refine pure_ (i := 38) (N := some 210) (v := ?_) (a' := ?_) #[I,I,I,I,I,I,I,I,I,I,I,I,I,I,I,I,I,I,I,I,I,I,I,I,I,I,I,I,I,I,I,I,I,I,I,I,I,I,I,O,O,O,O,O] rfl rfl (any_of HT_.out (by kernel_rfl)) (fun _ _ _ h => h) (Or.inl ⟨by rfl, ?_⟩) ?_ ?_
            rotate_left
            ·
             intro w'
             go_simp
             with_reducible rfl
            rotate_left
            ·
             simp only [Act.put, List.setIfInBounds_toArray, List.set_cons_zero, List.set_cons_succ, i64_w]
             rfl
            refine pure_ (i := 39) (N := some 211) (v := ?_) (a' := ?_) #[I,I,I,I,I,I,I,I,I,I,I,I,I,I,I,I,I,I,I,I,I,I,I,I,I,I,I,I,I,I,I,I,I,I,I,I,I,I,I,I,O,O,O,O] rfl rfl (any_of HT_.out (by kernel_rfl)) (fun _ _ _ h => h) (Or.inl ⟨by rfl, ?_⟩) ?_ ?_
            rotate_left
            ·
             intro w'
             go_simp
             with_reducible rfl
            rotate_left
            ·
             simp only [Act.put, List.setIfInBounds_toArray, List.set_cons_zero, List.set_cons_succ, i64_w]
             rfl
            refine pure_ (i := 40) (N := some 212) (v := ?_) (a' := ?_) #[I,I,I,I,I,I,I,I,I,I,I,I,I,I,I,I,I,I,I,I,I,I,I,I,I,I,I,I,I,I,I,I,I,I,I,I,I,I,I,I,I,O,O,O] rfl rfl (any_of HT_.out (by kernel_rfl)) (fun _ _ _ h => h) (Or.inl ⟨by rfl, ?_⟩) ?_ ?_
            rotate_left
            ·
             intro w'
             go_simp
             with_reducible rfl
            rotate_left
            ·
             simp only [Act.put, List.setIfInBounds_toArray, List.set_cons_zero, List.set_cons_succ, i64_w]
             rfl
            refine one_ (i := 41) (N := some 213) #[I,I,I,I,I,I,I,I,I,I,I,I,I,I,I,I,I,I,I,I,I,I,I,I,I,I,I,I,I,I,I,I,I,I,I,I,I,I,I,I,I,I,O,O] rfl rfl (one_of HT_.out (by kernel_rfl)) (by decide) (fun K hK => ?_)
            refine goes_ Try.func12 (by kernel_rfl) rfl #[] (by rfl) rfl rfl (by (try simp only [List.map_toArray, List.map_cons, List.map_nil]); first | done | rfl | (simp only [List.length_drop, List.length_take]; rfl)) ?_
            with_reducible refine (coupletlaw04_awake.calls kj158  t293 _ A184.out).mono ?_
            rintro e w188 ⟨rfl, hb⟩
            refine ⟨_, rfl, ?_⟩
            have n0_ := Aside0.mk (blk_below (g := gb0) (o := .cells #[.int .i64 a0_0, .int .i64 a0_1, .bool a0_2] 23 (0, 0)) (by (with_reducible repeat first | apply blk_drewN | apply blk_drew | apply blk_alloc); exact BK0.out) hb)
            have n1_ := Aside0.mk (blk_below (g := gb1) (o := .cells #[.int .i64 a1_0, .int .i64 a1_1, .bool a1_2] 23 (0, 0)) (by (with_reducible repeat first | apply blk_drewN | apply blk_drew | apply blk_alloc); exact BK1.out) hb)
            have n2_ := Aside0.mk (blk_below (g := gb2) (o := .cells #[.int .i64 t264, .int .i64 t265, .bool t266] 23 (0, 0)) (by (with_reducible repeat first | apply blk_drewN | apply blk_drew | apply blk_alloc); exact BK2.out) hb)
            have n3_ := Aside0.mk (blk_below (g := gb3) (o := .cells #[.int .i64 t267, .int .i64 t268, .bool t269] 23 (0, 0)) (by (with_reducible repeat first | apply blk_drewN | apply blk_drew | apply blk_alloc); exact BK3.out) hb)
            have n4_ := Aside0.mk (blk_below (g := gb4) (o := .cells #[.int .i64 t270, .int .i64 t271, .bool t272] 23 (0, 0)) (by (with_reducible repeat first | apply blk_drewN | apply blk_drew | apply blk_alloc); exact BK4.out) hb)
            have n5_ := Aside0.mk (below_step (by repeat (first | (with_reducible first | exact HB.out | apply below_alloc | apply pw_below_drewN | apply below_drew1 | refine below_set ?_ GE0.out | refine below_set ?_ GE1.out | refine below_set ?_ GE2.out | refine below_set ?_ GE3.out | refine below_set ?_ GE4.out) | exact HB.out)) hb)
            clear BK0
            clear BK1
            clear BK2
            clear BK3
            clear BK4
            clear HB
            have BK0 := n0_
            have BK1 := n1_
            have BK2 := n2_
            have BK3 := n3_
            have BK4 := n4_
            have HB := n5_
            clear n0_ n1_ n2_ n3_ n4_ n5_
            (try clear hb)
            (try clear hb2)
            (try clear hk)
            (try clear hi)
            refine hK.out _ _ ⟨(blk_cell BK0.out 0).trans rfl, (blk_cell BK0.out 1).trans rfl, (blk_cell BK0.out 2).trans rfl, (blk_cell BK1.out 0).trans rfl, (blk_cell BK1.out 1).trans rfl, (blk_cell BK1.out 2).trans rfl, (blk_cell BK2.out 0).trans rfl, (blk_cell BK2.out 1).trans rfl, (blk_cell BK2.out 2).trans rfl, (blk_cell BK3.out 0).trans rfl, (blk_cell BK3.out 1).trans rfl, (blk_cell BK3.out 2).trans rfl⟩ (fun hHeld => ?_)
            clear hK K
            refine norm_ (a' := ?_) ?_ ?_
            rotate_left
            ·
             show Act.put _ (some 213) _ = _
             simp only [Act.put, List.setIfInBounds_toArray, List.set_cons_zero, List.set_cons_succ, i64_w]
             rfl
            refine pure_ (i := 42) (N := some 214) (v := ?_) (a' := ?_) #[I,I,I,I,I,I,I,I,I,I,I,I,I,I,I,I,I,I,I,I,I,I,I,I,I,I,I,I,I,I,I,I,I,I,I,I,I,I,I,I,I,I,I,O] rfl rfl (any_of HT_.out (by kernel_rfl)) (fun _ _ _ h => h) (Or.inl ⟨by rfl, ?_⟩) ?_ ?_
            rotate_left
            ·
             intro w'
             go_simp
             with_reducible rfl
            rotate_left
            ·
             simp only [Act.put, List.setIfInBounds_toArray, List.set_cons_zero, List.set_cons_succ, i64_w]
             rfl
            refine pure_ (i := 43) (N := some 4) (v := ?_) (a' := ?_) #[I,I,I,I,I,I,I,I,I,I,I,I,I,I,I,I,I,I,I,I,I,I,I,I,I,I,I,I,I,I,I,I,I,I,I,I,I,I,I,I,I,I,I,I] rfl rfl (any_of HT_.out (by kernel_rfl)) (fun _ _ _ h => h) (Or.inl ⟨by rfl, ?_⟩) ?_ ?_
            rotate_left
            ·
             intro w'
             go_simp
             with_reducible rfl
            rotate_left
            ·
             simp only [Act.put, List.setIfInBounds_toArray, List.set_cons_zero, List.set_cons_succ, i64_w]
             rfl
            refine done_ (done_of HT_.out (by kernel_rfl)) ?_
            try go_wp2
            go_ret
            exact ⟨by first | rfl | (simp [errW_none, errW_some] <;> rfl) | (simp [*, errW_none, errW_some] <;> rfl), by repeat (first | (with_reducible first | exact HB.out | apply below_alloc | apply pw_below_drewN | apply below_drew1 | refine below_set ?_ GE0.out | refine below_set ?_ GE1.out | refine below_set ?_ GE2.out | refine below_set ?_ GE3.out | refine below_set ?_ GE4.out) | exact HB.out)⟩
           ·
            rw [if_neg c183] at H
            have c183b0 : (t269 == t292) = false := by simpa using c183
            (try (have c183b1 : decide (t269 = t292) = false := by simpa using c183))
            (try (have c183b2 : (t269 == t292) = false := by simpa using c183))
            (try (have c183b3 : ¬ (t269 = t292) := by simpa using c183))
            clear c183
            obtain rfl := Option.some.inj H
            exact absurd hr (by decide)
          ·
           rw [if_neg c181] at H
           have c181b0 : (t266 == t289) = false := by simpa using c181
           (try (have c181b1 : decide (t266 = t289) = false := by simpa using c181))
           (try (have c181b2 : (t266 == t289) = false := by simpa using c181))
           (try (have c181b3 : ¬ (t266 = t289) := by simpa using c181))
           clear c181
           obtain rfl := Option.some.inj H
           exact absurd hr (by decide)
         ·
          rw [if_neg c179] at H
          have c179b0 : (a0_1 == a1_1) = false := beq_eq_false_iff_ne.mpr c179
          have c179b1 : (a0_1 != a1_1) = true := bne_iff_ne.mpr c179
          replace H := Option.bind_eq_some_iff.mp H
          obtain ⟨t294, A1940, H⟩ := H
          replace H : (some t294) = some r := H
          have A194 := Aside0.mk A1940
          clear A1940
          obtain rfl := Option.some.inj H
          try go_wp2
          have n0_ := Aside0.mk (blk_drew BK0.out)
          have n1_ := Aside0.mk (blk_drew BK1.out)
          have n2_ := Aside0.mk (blk_drew BK2.out)
          have n3_ := Aside0.mk (blk_drew BK3.out)
          have n4_ := Aside0.mk (blk_drew BK4.out)
          have n5_ := Aside0.mk (below_drew1 HB.out)
          clear BK0
          clear BK1
          clear BK2
          clear BK3
          clear BK4
          clear HB
          have BK0 := n0_
          have BK1 := n1_
          have BK2 := n2_
          have BK3 := n3_
          have BK4 := n4_
          have HB := n5_
          clear n0_ n1_ n2_ n3_ n4_ n5_
          refine start_ (n := 44) (S := fun w' => w'.cell? ⟨gb0, 0, none⟩ = some (.int .i64 a0_0) ∧ w'.cell? ⟨gb0, 1, none⟩ = some (.int .i64 a0_1) ∧ w'.cell? ⟨gb0, 2, none⟩ = some (.bool a0_2) ∧ w'.cell? ⟨gb1, 0, none⟩ = some (.int .i64 a1_0) ∧ w'.cell? ⟨gb1, 1, none⟩ = some (.int .i64 a1_1) ∧ w'.cell? ⟨gb1, 2, none⟩ = some (.bool a1_2)) (ds := []) #[O,O,O,O,O,O,O,O,O,O,O,O,O,O,O,O,O,O,O,O,O,O,O,O,O,O,O,O,O,O,O,O,O,O,O,O,O,O,O,O,O,O,O,O] (by kernel_rfl) rfl rfl ⟨(blk_cell BK0.out 0).trans rfl, (blk_cell BK0.out 1).trans rfl, (blk_cell BK0.out 2).trans rfl, (blk_cell BK1.out 0).trans rfl, (blk_cell BK1.out 1).trans rfl, (blk_cell BK1.out 2).trans rfl⟩ (fun hHeld => ?_); refine with_tabW tab17 bits17 (fun HT_ HW_ => ?_)
          generalize wr.drew = w195 at BK0 BK1 BK2 BK3 BK4 HB hHeld ⊢
          refine pure_ (i := 0) (N := some 172) (v := ?_) (a' := ?_) #[I,O,O,O,O,O,O,O,O,O,O,O,O,O,O,O,O,O,O,O,O,O,O,O,O,O,O,O,O,O,O,O,O,O,O,O,O,O,O,O,O,O,O,O] rfl rfl (any_of HT_.out (by kernel_rfl)) (fun _ _ _ h => h) (Or.inl ⟨by rfl, ?_⟩) ?_ ?_
          rotate_left
          ·
           intro w'
           go_simp
           with_reducible rfl
          rotate_left
          ·
           simp only [Act.put, List.setIfInBounds_toArray, List.set_cons_zero, List.set_cons_succ, i64_w]
           rfl
          refine pure_ (i := 2) (N := some 174) (v := ?_) (a' := ?_) #[I,O,I,O,O,O,O,O,O,O,O,O,O,O,O,O,O,O,O,O,O,O,O,O,O,O,O,O,O,O,O,O,O,O,O,O,O,O,O,O,O,O,O,O] rfl rfl (any_of HT_.out (by kernel_rfl)) (fun _ _ _ h => h) (Or.inl ⟨by rfl, ?_⟩) ?_ ?_
          rotate_left
          ·
           intro w'
           go_simp
           with_reducible rfl
          rotate_left
          ·
           simp only [Act.put, List.setIfInBounds_toArray, List.set_cons_zero, List.set_cons_succ, i64_w]
           rfl
          refine take_ (i := 1) (N := some 173) (v := ?_) (a' := ?_) #[I,I,I,O,O,O,O,O,O,O,O,O,O,O,O,O,O,O,O,O,O,O,O,O,O,O,O,O,O,O,O,O,O,O,O,O,O,O,O,O,O,O,O,O] rfl rfl (take_ofW HT_.out HW_.out (by kernel_rfl)) (fun _ _ _ h => h) (Or.inl ⟨by rfl, ?_⟩) hHeld ?_ ?_
          rotate_left
          ·
           rintro w' ⟨s0, s1, s2, s3, s4, s5⟩
           go_simp
           with_reducible rfl
          rotate_left
          ·
           simp only [Act.put, List.setIfInBounds_toArray, List.set_cons_zero, List.set_cons_succ, i64_w]
           rfl
          refine take_ (i := 3) (N := some 175) (v := ?_) (a' := ?_) #[I,I,I,I,O,O,O,O,O,O,O,O,O,O,O,O,O,O,O,O,O,O,O,O,O,O,O,O,O,O,O,O,O,O,O,O,O,O,O,O,O,O,O,O] rfl rfl (take_ofW HT_.out HW_.out (by kernel_rfl)) (fun _ _ _ h => h) (Or.inl ⟨by rfl, ?_⟩) hHeld ?_ ?_
          rotate_left
          ·
           rintro w' ⟨s0, s1, s2, s3, s4, s5⟩
           go_simp
           with_reducible rfl
          rotate_left
          ·
           simp only [Act.put, List.setIfInBounds_toArray, List.set_cons_zero, List.set_cons_succ, i64_w]
           rfl
          refine pure_ (i := 4) (N := some 176) (v := ?_) (a' := ?_) #[I,I,I,I,I,O,O,O,O,O,O,O,O,O,O,O,O,O,O,O,O,O,O,O,O,O,O,O,O,O,O,O,O,O,O,O,O,O,O,O,O,O,O,O] rfl rfl (any_of HT_.out (by kernel_rfl)) (fun _ _ _ h => h) (Or.inl ⟨by rfl, ?_⟩) ?_ ?_
          rotate_left
          ·
           intro w'
           go_simp
           with_reducible rfl
          rotate_left
          ·
           simp only [Act.put, List.setIfInBounds_toArray, List.set_cons_zero, List.set_cons_succ, i64_w]
           rfl
          refine pure_ (i := 5) (N := some 177) (v := ?_) (a' := ?_) #[I,I,I,I,I,I,O,O,O,O,O,O,O,O,O,O,O,O,O,O,O,O,O,O,O,O,O,O,O,O,O,O,O,O,O,O,O,O,O,O,O,O,O,O] rfl rfl (any_of HT_.out (by kernel_rfl)) (fun _ _ _ h => h) (Or.inl ⟨by rfl, ?_⟩) ?_ ?_
          rotate_left
          ·
           intro w'
           go_simp
           with_reducible rfl
          rotate_left
          ·
           simp only [Act.put, List.setIfInBounds_toArray, List.set_cons_zero, List.set_cons_succ, i64_w]
           rfl
          refine pure_ (i := 6) (N := some 178) (v := undef) (a' := ?_) #[I,I,I,I,I,I,I,O,O,O,O,O,O,O,O,O,O,O,O,O,O,O,O,O,O,O,O,O,O,O,O,O,O,O,O,O,O,O,O,O,O,O,O,O] rfl rfl (any_of HT_.out (by kernel_rfl)) (fun _ _ _ h => h) (Or.inr ⟨by rfl, rfl⟩) ?_ ?_
          rotate_left
          ·
           simp only [Act.put, List.setIfInBounds_toArray, List.set_cons_zero, List.set_cons_succ, i64_w]
           rfl
          refine pure_ (i := 7) (N := some 179) (v := undef) (a' := ?_) #[I,I,I,I,I,I,I,I,O,O,O,O,O,O,O,O,O,O,O,O,O,O,O,O,O,O,O,O,O,O,O,O,O,O,O,O,O,O,O,O,O,O,O,O] rfl rfl (any_of HT_.out (by kernel_rfl)) (fun _ _ _ h => h) (Or.inr ⟨by rfl, rfl⟩) ?_ ?_
          rotate_left
          ·
           simp only [Act.put, List.setIfInBounds_toArray, List.set_cons_zero, List.set_cons_succ, i64_w]
           rfl
          refine pure_ (i := 8) (N := some 180) (v := undef) (a' := ?_) #[I,I,I,I,I,I,I,I,I,O,O,O,O,O,O,O,O,O,O,O,O,O,O,O,O,O,O,O,O,O,O,O,O,O,O,O,O,O,O,O,O,O,O,O] rfl rfl (any_of HT_.out (by kernel_rfl)) (fun _ _ _ h => h) (Or.inr ⟨by rfl, rfl⟩) ?_ ?_
          rotate_left
          ·
           simp only [Act.put, List.setIfInBounds_toArray, List.set_cons_zero, List.set_cons_succ, i64_w]
           rfl
          refine pure_ (i := 9) (N := some 181) (v := undef) (a' := ?_) #[I,I,I,I,I,I,I,I,I,I,O,O,O,O,O,O,O,O,O,O,O,O,O,O,O,O,O,O,O,O,O,O,O,O,O,O,O,O,O,O,O,O,O,O] rfl rfl (any_of HT_.out (by kernel_rfl)) (fun _ _ _ h => h) (Or.inr ⟨by rfl, rfl⟩) ?_ ?_
          rotate_left
          ·
           simp only [Act.put, List.setIfInBounds_toArray, List.set_cons_zero, List.set_cons_succ, i64_w]
           rfl
          refine pure_ (i := 10) (N := some 182) (v := undef) (a' := ?_) #[I,I,I,I,I,I,I,I,I,I,I,O,O,O,O,O,O,O,O,O,O,O,O,O,O,O,O,O,O,O,O,O,O,O,O,O,O,O,O,O,O,O,O,O] rfl rfl (any_of HT_.out (by kernel_rfl)) (fun _ _ _ h => h) (Or.inr ⟨by rfl, rfl⟩) ?_ ?_
          rotate_left
          ·
           simp only [Act.put, List.setIfInBounds_toArray, List.set_cons_zero, List.set_cons_succ, i64_w]
           rfl
          refine pure_ (i := 11) (N := some 183) (v := undef) (a' := ?_) #[I,I,I,I,I,I,I,I,I,I,I,I,O,O,O,O,O,O,O,O,O,O,O,O,O,O,O,O,O,O,O,O,O,O,O,O,O,O,O,O,O,O,O,O] rfl rfl (any_of HT_.out (by kernel_rfl)) (fun _ _ _ h => h) (Or.inr ⟨by rfl, rfl⟩) ?_ ?_
          rotate_left
          ·
           simp only [Act.put, List.setIfInBounds_toArray, List.set_cons_zero, List.set_cons_succ, i64_w]
           rfl
          refine pure_ (i := 12) (N := some 184) (v := undef) (a' := ?_) #[I,I,I,I,I,I,I,I,I,I,I,I,I,O,O,O,O,O,O,O,O,O,O,O,O,O,O,O,O,O,O,O,O,O,O,O,O,O,O,O,O,O,O,O] rfl rfl (any_of HT_.out (by kernel_rfl)) (fun _ _ _ h => h) (Or.inr ⟨by rfl, rfl⟩) ?_ ?_
          rotate_left
          ·
           simp only [Act.put, List.setIfInBounds_toArray, List.set_cons_zero, List.set_cons_succ, i64_w]
           rfl
          refine pure_ (i := 13) (N := some 185) (v := undef) (a' := ?_) #[I,I,I,I,I,I,I,I,I,I,I,I,I,I,O,O,O,O,O,O,O,O,O,O,O,O,O,O,O,O,O,O,O,O,O,O,O,O,O,O,O,O,O,O] rfl rfl (any_of HT_.out (by kernel_rfl)) (fun _ _ _ h => h) (Or.inr ⟨by rfl, rfl⟩) ?_ ?_
          rotate_left
          ·
           simp only [Act.put, List.setIfInBounds_toArray, List.set_cons_zero, List.set_cons_succ, i64_w]
           rfl
          refine pure_ (i := 14) (N := some 186) (v := undef) (a' := ?_) #[I,I,I,I,I,I,I,I,I,I,I,I,I,I,I,O,O,O,O,O,O,O,O,O,O,O,O,O,O,O,O,O,O,O,O,O,O,O,O,O,O,O,O,O] rfl rfl (any_of HT_.out (by kernel_rfl)) (fun _ _ _ h => h) (Or.inr ⟨by rfl, rfl⟩) ?_ ?_
          rotate_left
          ·
           simp only [Act.put, List.setIfInBounds_toArray, List.set_cons_zero, List.set_cons_succ, i64_w]
           rfl
          refine pure_ (i := 15) (N := some 187) (v := undef) (a' := ?_) #[I,I,I,I,I,I,I,I,I,I,I,I,I,I,I,I,O,O,O,O,O,O,O,O,O,O,O,O,O,O,O,O,O,O,O,O,O,O,O,O,O,O,O,O] rfl rfl (any_of HT_.out (by kernel_rfl)) (fun _ _ _ h => h) (Or.inr ⟨by rfl, rfl⟩) ?_ ?_
          rotate_left
          ·
           simp only [Act.put, List.setIfInBounds_toArray, List.set_cons_zero, List.set_cons_succ, i64_w]
           rfl
          refine pure_ (i := 16) (N := some 188) (v := undef) (a' := ?_) #[I,I,I,I,I,I,I,I,I,I,I,I,I,I,I,I,I,O,O,O,O,O,O,O,O,O,O,O,O,O,O,O,O,O,O,O,O,O,O,O,O,O,O,O] rfl rfl (any_of HT_.out (by kernel_rfl)) (fun _ _ _ h => h) (Or.inr ⟨by rfl, rfl⟩) ?_ ?_
          rotate_left
          ·
           simp only [Act.put, List.setIfInBounds_toArray, List.set_cons_zero, List.set_cons_succ, i64_w]
           rfl
          refine pure_ (i := 17) (N := some 189) (v := undef) (a' := ?_) #[I,I,I,I,I,I,I,I,I,I,I,I,I,I,I,I,I,I,O,O,O,O,O,O,O,O,O,O,O,O,O,O,O,O,O,O,O,O,O,O,O,O,O,O] rfl rfl (any_of HT_.out (by kernel_rfl)) (fun _ _ _ h => h) (Or.inr ⟨by rfl, rfl⟩) ?_ ?_
          rotate_left
          ·
           simp only [Act.put, List.setIfInBounds_toArray, List.set_cons_zero, List.set_cons_succ, i64_w]
           rfl
          refine pure_ (i := 18) (N := some 190) (v := ?_) (a' := ?_) #[I,I,I,I,I,I,I,I,I,I,I,I,I,I,I,I,I,I,I,O,O,O,O,O,O,O,O,O,O,O,O,O,O,O,O,O,O,O,O,O,O,O,O,O] rfl rfl (any_of HT_.out (by kernel_rfl)) (fun _ _ _ h => h) (Or.inl ⟨by rfl, ?_⟩) ?_ ?_
          rotate_left
          ·
           intro w'
           go_simp
           with_reducible rfl
          rotate_left
          ·
           simp only [Act.put, List.setIfInBounds_toArray, List.set_cons_zero, List.set_cons_succ, i64_w]
           rfl
          refine pure_ (i := 19) (N := some 191) (v := ?_) (a' := ?_) #[I,I,I,I,I,I,I,I,I,I,I,I,I,I,I,I,I,I,I,I,O,O,O,O,O,O,O,O,O,O,O,O,O,O,O,O,O,O,O,O,O,O,O,O] rfl rfl (any_of HT_.out (by kernel_rfl)) (fun _ _ _ h => h) (Or.inl ⟨by rfl, ?_⟩) ?_ ?_
          rotate_left
          ·
           intro w'
           go_simp
           with_reducible rfl
          rotate_left
          ·
           simp only [Act.put, List.setIfInBounds_toArray, List.set_cons_zero, List.set_cons_succ, i64_w]
           rfl
          refine pure_ (i := 20) (N := some 192) (v := ?_) (a' := ?_) #[I,I,I,I,I,I,I,I,I,I,I,I,I,I,I,I,I,I,I,I,I,O,O,O,O,O,O,O,O,O,O,O,O,O,O,O,O,O,O,O,O,O,O,O] rfl rfl (any_of HT_.out (by kernel_rfl)) (fun _ _ _ h => h) (Or.inl ⟨by rfl, ?_⟩) ?_ ?_
          rotate_left
          ·
           intro w'
           go_simp
           with_reducible rfl
          rotate_left
          ·
           simp only [Act.put, List.setIfInBounds_toArray, List.set_cons_zero, List.set_cons_succ, i64_w]
           rfl
          refine pure_ (i := 22) (N := some 194) (v := ?_) (a' := ?_) #[I,I,I,I,I,I,I,I,I,I,I,I,I,I,I,I,I,I,I,I,I,O,I,O,O,O,O,O,O,O,O,O,O,O,O,O,O,O,O,O,O,O,O,O] rfl rfl (any_of HT_.out (by kernel_rfl)) (fun _ _ _ h => h) (Or.inl ⟨by rfl, ?_⟩) ?_ ?_
          rotate_left
          ·
           intro w'
           go_simp
           with_reducible rfl
          rotate_left
          ·
           simp only [Act.put, List.setIfInBounds_toArray, List.set_cons_zero, List.set_cons_succ, i64_w]
           rfl
          refine take_ (i := 21) (N := some 193) (v := ?_) (a' := ?_) #[I,I,I,I,I,I,I,I,I,I,I,I,I,I,I,I,I,I,I,I,I,I,I,O,O,O,O,O,O,O,O,O,O,O,O,O,O,O,O,O,O,O,O,O] rfl rfl (take_ofW HT_.out HW_.out (by kernel_rfl)) (fun _ _ _ h => h) (Or.inl ⟨by rfl, ?_⟩) hHeld ?_ ?_
          rotate_left
          ·
           rintro w' ⟨s0, s1, s2, s3, s4, s5⟩
           go_simp
           with_reducible rfl
          rotate_left
          ·
           simp only [Act.put, List.setIfInBounds_toArray, List.set_cons_zero, List.set_cons_succ, i64_w]
           rfl
          refine take_ (i := 23) (N := some 195) (v := ?_) (a' := ?_) #[I,I,I,I,I,I,I,I,I,I,I,I,I,I,I,I,I,I,I,I,I,I,I,I,O,O,O,O,O,O,O,O,O,O,O,O,O,O,O,O,O,O,O,O] rfl rfl (take_ofW HT_.out HW_.out (by kernel_rfl)) (fun _ _ _ h => h) (Or.inl ⟨by rfl, ?_⟩) hHeld ?_ ?_
          rotate_left
          ·
           rintro w' ⟨s0, s1, s2, s3, s4, s5⟩
           go_simp
           with_reducible rfl
          rotate_left
          ·
           simp only [Act.put, List.setIfInBounds_toArray, List.set_cons_zero, List.set_cons_succ, i64_w]
           rfl
          refine pure_ (i := 24) (N := some 196) (v := ?_) (a' := ?_) #[I,I,I,I,I,I,I,I,I,I,I,I,I,I,I,I,I,I,I,I,I,I,I,I,I,O,O,O,O,O,O,O,O,O,O,O,O,O,O,O,O,O,O,O] rfl rfl (any_of HT_.out (by kernel_rfl)) (fun _ _ _ h => h) (Or.inl ⟨by rfl, ?_⟩) ?_ ?_
          rotate_left
          ·
           intro w'
           go_simp
           with_reducible rfl
          rotate_left
          ·
           simp only [Act.put, List.setIfInBounds_toArray, List.set_cons_zero, List.set_cons_succ, i64_w]
           rfl
          refine pure_ (i := 25) (N := some 197) (v := ?_) (a' := ?_) #[I,I,I,I,I,I,I,I,I,I,I,I,I,I,I,I,I,I,I,I,I,I,I,I,I,I,O,O,O,O,O,O,O,O,O,O,O,O,O,O,O,O,O,O] rfl rfl (any_of HT_.out (by kernel_rfl)) (fun _ _ _ h => h) (Or.inl ⟨by rfl, ?_⟩) ?_ ?_
          rotate_left
          ·
           intro w'
           go_simp
           with_reducible rfl
          rotate_left
          ·
           simp only [Act.put, List.setIfInBounds_toArray, List.set_cons_zero, List.set_cons_succ, i64_w]
           rfl
          refine pure_ (i := 26) (N := some 198) (v := undef) (a' := ?_) #[I,I,I,I,I,I,I,I,I,I,I,I,I,I,I,I,I,I,I,I,I,I,I,I,I,I,I,O,O,O,O,O,O,O,O,O,O,O,O,O,O,O,O,O] rfl rfl (any_of HT_.out (by kernel_rfl)) (fun _ _ _ h => h) (Or.inr ⟨by rfl, rfl⟩) ?_ ?_
          rotate_left
          ·
           simp only [Act.put, List.setIfInBounds_toArray, List.set_cons_zero, List.set_cons_succ, i64_w]
           rfl
          refine pure_ (i := 27) (N := some 199) (v := undef) (a' := ?_) #[I,I,I,I,I,I,I,I,I,I,I,I,I,I,I,I,I,I,I,I,I,I,I,I,I,I,I,I,O,O,O,O,O,O,O,O,O,O,O,O,O,O,O,O] rfl rfl (any_of HT_.out (by kernel_rfl)) (fun _ _ _ h => h) (Or.inr ⟨by rfl, rfl⟩) ?_ ?_
          rotate_left
          ·
           simp only [Act.put, List.setIfInBounds_toArray, List.set_cons_zero, List.set_cons_succ, i64_w]
           rfl
          refine pure_ (i := 28) (N := some 200) (v := undef) (a' := ?_) #[I,I,I,I,I,I,I,I,I,I,I,I,I,I,I,I,I,I,I,I,I,I,I,I,I,I,I,I,I,O,O,O,O,O,O,O,O,O,O,O,O,O,O,O] rfl rfl (any_of HT_.out (by kernel_rfl)) (fun _ _ _ h => h) (Or.inr ⟨by rfl, rfl⟩) ?_ ?_
          rotate_left
          ·
           simp only [Act.put, List.setIfInBounds_toArray, List.set_cons_zero, List.set_cons_succ, i64_w]
           rfl
          refine pure_ (i := 29) (N := some 201) (v := undef) (a' := ?_) #[I,I,I,I,I,I,I,I,I,I,I,I,I,I,I,I,I,I,I,I,I,I,I,I,I,I,I,I,I,I,O,O,O,O,O,O,O,O,O,O,O,O,O,O] rfl rfl (any_of HT_.out (by kernel_rfl)) (fun _ _ _ h => h) (Or.inr ⟨by rfl, rfl⟩) ?_ ?_
          rotate_left
          ·
           simp only [Act.put, List.setIfInBounds_toArray, List.set_cons_zero, List.set_cons_succ, i64_w]
           rfl
          refine pure_ (i := 30) (N := some 202) (v := undef) (a' := ?_) #[I,I,I,I,I,I,I,I,I,I,I,I,I,I,I,I,I,I,I,I,I,I,I,I,I,I,I,I,I,I,I,O,O,O,O,O,O,O,O,O,O,O,O,O] rfl rfl (any_of HT_.out (by kernel_rfl)) (fun _ _ _ h => h) (Or.inr ⟨by rfl, rfl⟩) ?_ ?_
          rotate_left
          ·
           simp only [Act.put, List.setIfInBounds_toArray, List.set_cons_zero, List.set_cons_succ, i64_w]
           rfl
          refine pure_ (i := 31) (N := some 203) (v := undef) (a' := ?_) #[I,I,I,I,I,I,I,I,I,I,I,I,I,I,I,I,I,I,I,I,I,I,I,I,I,I,I,I,I,I,I,I,O,O,O,O,O,O,O,O,O,O,O,O] rfl rfl (any_of HT_.out (by kernel_rfl)) (fun _ _ _ h => h) (Or.inr ⟨by rfl, rfl⟩) ?_ ?_
          rotate_left
          ·
           simp only [Act.put, List.setIfInBounds_toArray, List.set_cons_zero, List.set_cons_succ, i64_w]
           rfl
          refine pure_ (i := 32) (N := some 204) (v := undef) (a' := ?_) #[I,I,I,I,I,I,I,I,I,I,I,I,I,I,I,I,I,I,I,I,I,I,I,I,I,I,I,I,I,I,I,I,I,O,O,O,O,O,O,O,O,O,O,O] rfl rfl (any_of HT_.out (by kernel_rfl)) (fun _ _ _ h => h) (Or.inr ⟨by rfl, rfl⟩) ?_ ?_
          rotate_left
          ·
           simp only [Act.put, List.setIfInBounds_toArray, List.set_cons_zero, List.set_cons_succ, i64_w]
           rfl
          refine pure_ (i := 33) (N := some 205) (v := undef) (a' := ?_) #[I,I,I,I,I,I,I,I,I,I,I,I,I,I,I,I,I,I,I,I,I,I,I,I,I,I,I,I,I,I,I,I,I,I,O,O,O,O,O,O,O,O,O,O] rfl rfl (any_of HT_.out (by kernel_rfl)) (fun _ _ _ h => h) (Or.inr ⟨by rfl, rfl⟩) ?_ ?_
          rotate_left
          ·
           simp only [Act.put, List.setIfInBounds_toArray, List.set_cons_zero, List.set_cons_succ, i64_w]
           rfl
          refine pure_ (i := 34) (N := some 206) (v := undef) (a' := ?_) #[I,I,I,I,I,I,I,I,I,I,I,I,I,I,I,I,I,I,I,I,I,I,I,I,I,I,I,I,I,I,I,I,I,I,I,O,O,O,O,O,O,O,O,O] rfl rfl (any_of HT_.out (by kernel_rfl)) (fun _ _ _ h => h) (Or.inr ⟨by rfl, rfl⟩) ?_ ?_
          rotate_left
          ·
           simp only [Act.put, List.setIfInBounds_toArray, List.set_cons_zero, List.set_cons_succ, i64_w]
           rfl
          refine pure_ (i := 35) (N := some 207) (v := undef) (a' := ?_) #[I,I,I,I,I,I,I,I,I,I,I,I,I,I,I,I,I,I,I,I,I,I,I,I,I,I,I,I,I,I,I,I,I,I,I,I,O,O,O,O,O,O,O,O] rfl rfl (any_of HT_.out (by kernel_rfl)) (fun _ _ _ h => h) (Or.inr ⟨by rfl, rfl⟩) ?_ ?_
          rotate_left
          ·
           simp only [Act.put, List.setIfInBounds_toArray, List.set_cons_zero, List.set_cons_succ, i64_w]
           rfl
          refine pure_ (i := 36) (N := some 208) (v := undef) (a' := ?_) #[I,I,I,I,I,I,I,I,I,I,I,I,I,I,I,I,I,I,I,I,I,I,I,I,I,I,I,I,I,I,I,I,I,I,I,I,I,O,O,O,O,O,O,O] rfl rfl (any_of HT_.out (by kernel_rfl)) (fun _ _ _ h => h) (Or.inr ⟨by rfl, rfl⟩) ?_ ?_
          rotate_left
          ·
           simp only [Act.put, List.setIfInBounds_toArray, List.set_cons_zero, List.set_cons_succ, i64_w]
           rfl
          refine pure_ (i := 37) (N := some 209) (v := undef) (a' := ?_) #[I,I,I,I,I,I,I,I,I,I,I,I,I,I,I,I,I,I,I,I,I,I,I,I,I,I,I,I,I,I,I,I,I,I,I,I,I,I,O,O,O,O,O,O] rfl rfl (any_of HT_.out (by kernel_rfl)) (fun _ _ _ h => h) (Or.inr ⟨by rfl, rfl⟩) ?_ ?_
          rotate_left
          ·
           simp only [Act.put, List.setIfInBounds_toArray, List.set_cons_zero, List.set_cons_succ, i64_w]
           rfl
          refine pure_ (i := 38) (N := some 210) (v := ?_) (a' := ?_) #[I,I,I,I,I,I,I,I,I,I,I,I,I,I,I,I,I,I,I,I,I,I,I,I,I,I,I,I,I,I,I,I,I,I,I,I,I,I,I,O,O,O,O,O] rfl rfl (any_of HT_.out (by kernel_rfl)) (fun _ _ _ h => h) (Or.inl ⟨by rfl, ?_⟩) ?_ ?_
          rotate_left
          ·
           intro w'
           go_simp
           with_reducible rfl
          rotate_left
          ·
           simp only [Act.put, List.setIfInBounds_toArray, List.set_cons_zero, List.set_cons_succ, i64_w]
           rfl
          refine pure_ (i := 39) (N := some 211) (v := ?_) (a' := ?_) #[I,I,I,I,I,I,I,I,I,I,I,I,I,I,I,I,I,I,I,I,I,I,I,I,I,I,I,I,I,I,I,I,I,I,I,I,I,I,I,I,O,O,O,O] rfl rfl (any_of HT_.out (by kernel_rfl)) (fun _ _ _ h => h) (Or.inl ⟨by rfl, ?_⟩) ?_ ?_
          rotate_left
          ·
           intro w'
           go_simp
           with_reducible rfl
          rotate_left
          ·
           simp only [Act.put, List.setIfInBounds_toArray, List.set_cons_zero, List.set_cons_succ, i64_w]
           rfl
          refine pure_ (i := 40) (N := some 212) (v := ?_) (a' := ?_) #[I,I,I,I,I,I,I,I,I,I,I,I,I,I,I,I,I,I,I,I,I,I,I,I,I,I,I,I,I,I,I,I,I,I,I,I,I,I,I,I,I,O,O,O] rfl rfl (any_of HT_.out (by kernel_rfl)) (fun _ _ _ h => h) (Or.inl ⟨by rfl, ?_⟩) ?_ ?_
          rotate_left
          ·
           intro w'
           go_simp
           with_reducible rfl
          rotate_left
          ·
           simp only [Act.put, List.setIfInBounds_toArray, List.set_cons_zero, List.set_cons_succ, i64_w]
           rfl
          refine one_ (i := 41) (N := some 213) #[I,I,I,I,I,I,I,I,I,I,I,I,I,I,I,I,I,I,I,I,I,I,I,I,I,I,I,I,I,I,I,I,I,I,I,I,I,I,I,I,I,I,O,O] rfl rfl (one_of HT_.out (by kernel_rfl)) (by decide) (fun K hK => ?_)
          refine goes_ Try.func12 (by kernel_rfl) rfl #[] (by rfl) rfl rfl (by (try simp only [List.map_toArray, List.map_cons, List.map_nil]); first | done | rfl | (simp only [List.length_drop, List.length_take]; rfl)) ?_
          with_reducible refine (coupletlaw04_awake.calls kj158  t294 _ A194.out).mono ?_
          rintro e w196 ⟨rfl, hb⟩
          refine ⟨_, rfl, ?_⟩
          have n0_ := Aside0.mk (blk_below (g := gb0) (o := .cells #[.int .i64 a0_0, .int .i64 a0_1, .bool a0_2] 23 (0, 0)) (by (with_reducible repeat first | apply blk_drewN | apply blk_drew | apply blk_alloc); exact BK0.out) hb)
          have n1_ := Aside0.mk (blk_below (g := gb1) (o := .cells #[.int .i64 a1_0, .int .i64 a1_1, .bool a1_2] 23 (0, 0)) (by (with_reducible repeat first | apply blk_drewN | apply blk_drew | apply blk_alloc); exact BK1.out) hb)
          have n2_ := Aside0.mk (blk_below (g := gb2) (o := .cells #[.int .i64 t264, .int .i64 t265, .bool t266] 23 (0, 0)) (by (with_reducible repeat first | apply blk_drewN | apply blk_drew | apply blk_alloc); exact BK2.out) hb)
          have n3_ := Aside0.mk (blk_below (g := gb3) (o := .cells #[.int .i64 t267, .int .i64 t268, .bool t269] 23 (0, 0)) (by (with_reducible repeat first | apply blk_drewN | apply blk_drew | apply blk_alloc); exact BK3.out) hb)
          have n4_ := Aside0.mk (blk_below (g := gb4) (o := .cells #[.int .i64 t270, .int .i64 t271, .bool t272] 23 (0, 0)) (by (with_reducible repeat first | apply blk_drewN | apply blk_drew | apply blk_alloc); exact BK4.out) hb)
          have n5_ := Aside0.mk (below_step (by repeat (first | (with_reducible first | exact HB.out | apply below_alloc | apply pw_below_drewN | apply below_drew1 | refine below_set ?_ GE0.out | refine below_set ?_ GE1.out | refine below_set ?_ GE2.out | refine below_set ?_ GE3.out | refine below_set ?_ GE4.out) | exact HB.out)) hb)
          clear BK0
          clear BK1
          clear BK2
          clear BK3
          clear BK4
          clear HB
          have BK0 := n0_
          have BK1 := n1_
          have BK2 := n2_
          have BK3 := n3_
          have BK4 := n4_
          have HB := n5_
          clear n0_ n1_ n2_ n3_ n4_ n5_
          (try clear hb)
          (try clear hb2)
          (try clear hk)
          (try clear hi)
          refine hK.out _ _ ⟨(blk_cell BK0.out 0).trans rfl, (blk_cell BK0.out 1).trans rfl, (blk_cell BK0.out 2).trans rfl, (blk_cell BK1.out 0).trans rfl, (blk_cell BK1.out 1).trans rfl, (blk_cell BK1.out 2).trans rfl⟩ (fun hHeld => ?_)
          clear hK K
          refine norm_ (a' := ?_) ?_ ?_
          rotate_left
          ·
           show Act.put _ (some 213) _ = _
           simp only [Act.put, List.setIfInBounds_toArray, List.set_cons_zero, List.set_cons_succ, i64_w]
           rfl
          refine pure_ (i := 42) (N := some 214) (v := ?_) (a' := ?_) #[I,I,I,I,I,I,I,I,I,I,I,I,I,I,I,I,I,I,I,I,I,I,I,I,I,I,I,I,I,I,I,I,I,I,I,I,I,I,I,I,I,I,I,O] rfl rfl (any_of HT_.out (by kernel_rfl)) (fun _ _ _ h => h) (Or.inl ⟨by rfl, ?_⟩) ?_ ?_
          rotate_left
          ·
           intro w'
           go_simp
           with_reducible rfl
          rotate_left
          ·
           simp only [Act.put, List.setIfInBounds_toArray, List.set_cons_zero, List.set_cons_succ, i64_w]
           rfl
          refine pure_ (i := 43) (N := some 4) (v := ?_) (a' := ?_) #[I,I,I,I,I,I,I,I,I,I,I,I,I,I,I,I,I,I,I,I,I,I,I,I,I,I,I,I,I,I,I,I,I,I,I,I,I,I,I,I,I,I,I,I] rfl rfl (any_of HT_.out (by kernel_rfl)) (fun _ _ _ h => h) (Or.inl ⟨by rfl, ?_⟩) ?_ ?_
          rotate_left
          ·
           intro w'
           go_simp
           with_reducible rfl
          rotate_left
          ·
           simp only [Act.put, List.setIfInBounds_toArray, List.set_cons_zero, List.set_cons_succ, i64_w]
           rfl
          refine done_ (done_of HT_.out (by kernel_rfl)) ?_
          try go_wp2
          go_ret
          exact ⟨by first | rfl | (simp [errW_none, errW_some] <;> rfl) | (simp [*, errW_none, errW_some] <;> rfl), by repeat (first | (with_reducible first | exact HB.out | apply below_alloc | apply pw_below_drewN | apply below_drew1 | refine below_set ?_ GE0.out | refine below_set ?_ GE1.out | refine below_set ?_ GE2.out | refine below_set ?_ GE3.out | refine below_set ?_ GE4.out) | exact HB.out)⟩
end Go.Proofs.Ytbpbeighpaaeaaa.G
