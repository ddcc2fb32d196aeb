-- PRINTED BY print.sh 35421559b90ae4d0a3588c463048766b98c2df88dd9212a6774a882060cdf62d: not written by this session
import Derived.Test.YtlbngnilfenaaaaPWatchFreshx0
import Derived.Test.YtlbngnilfenaaaaPWatchFreshx2
namespace Go.Proofs.Ytlbngnilfenaaaa.PWatchFresh
open Go.RowKit Go.Proofs.YtlbngnilfenaaaaW.PrintWords Go.Proofs.YtlbngnilfenaaaaW.PrintLast Go.Proofs.YtlbngnilfenaaaaW.PrintMore
attribute [local go_sem] max2_int min2_int max_two min_two max_three min_three max_four min_four   -- for this text's walks alone
set_option linter.unusedVariables false
set_option linter.unusedSimpArgs false

/-! ### watch_Next: function 10 -/
mutual
def watch_Next.j0 : Nat → Bool → Int → Int → Int → Int → Int → Int → Option (Int × Int × Int × Int)
  | 0, _, _, _, _, _, _, _ => none
  | k + 1, x5, x106000, x106001, x106002, x106003, x107000, x107001 => if x5 = true then (some (x106000, x106001, x106002, x106003)) else (if x107000 = 5 then (some (0, 0, 0, 0)) else (if x107000 = 1 then (some (1, 0, 0, 0)) else ((watch_Valid.f x106000 x106001 x106002 x106003).bind fun t109 => (if t109 = true then (if x107000 = 4 then (some (3, x106001, x106002, x106003)) else (if (wrap64 (x106003 + 1)) > 65536 then (some (3, x106001, x106002, wrap64 (x106003 + 1))) else (if x106000 = 1 then (watch_Next.j1 k (x107000 == 3) x106000 x106001 x106002 (wrap64 (x106003 + 1)) x107000 x107001) else (watch_Next.j1 k false x106000 x106001 x106002 (wrap64 (x106003 + 1)) x107000 x107001)))) else (some (x106000, x106001, x106002, x106003))))))
def watch_Next.j1 : Nat → Bool → Int → Int → Int → Int → Int → Int → Option (Int × Int × Int × Int)
  | 0, _, _, _, _, _, _, _ => none
  | k + 1, x50, x106000, x106001, x106002, x106003, x107000, x107001 => if x50 = true then ((watch_tripped.f x106000 x106001 x106002 x106003 x107001).bind fun bt110 => (some (bt110.1, bt110.2.1, bt110.2.2.1, bt110.2.2.2))) else (if x106000 = 1 then (some (x106000, x106001, 0, x106003)) else (some (x106000, x106001, x106002, x106003)))
end
def watch_Next.f (k : Nat) (a0_0 : Int) (a0_1 : Int) (a0_2 : Int) (a0_3 : Int) (a1_0 : Int) (a1_1 : Int) : Option (Int × Int × Int × Int) := (watch_Right.f k a0_0 a0_1 a0_2 a0_3).bind fun t108 => (if t108 = true then (if a1_0 < 1 then (watch_Next.j0 k true a0_0 a0_1 a0_2 a0_3 a1_0 a1_1) else (watch_Next.j0 k (decide (a1_0 > 5)) a0_0 a0_1 a0_2 a0_3 a1_0 a1_1)) else (watch_Next.j0 k true a0_0 a0_1 a0_2 a0_3 a1_0 a1_1))
theorem watch_Next.mono_l : ∀ k, (∀ y0 y1 y2 y3 y4 y5 y6, LeO (watch_Next.j0 k y0 y1 y2 y3 y4 y5 y6) (watch_Next.j0 (k + 1) y0 y1 y2 y3 y4 y5 y6)) ∧ (∀ y0 y1 y2 y3 y4 y5 y6, LeO (watch_Next.j1 k y0 y1 y2 y3 y4 y5 y6) (watch_Next.j1 (k + 1) y0 y1 y2 y3 y4 y5 y6))
  | 0 => ⟨fun _ _ _ _ _ _ _ r h => by simp [watch_Next.j0] at h, fun _ _ _ _ _ _ _ r h => by simp [watch_Next.j1] at h⟩
  | k + 1 => by
    obtain ⟨ih0, ih1⟩ := watch_Next.mono_l k
    refine ⟨?_, ?_⟩
    · intro y0 y1 y2 y3 y4 y5 y6
      unfold watch_Next.j0
      repeat' first
      | (with_reducible exact ih0 _ _ _ _ _ _ _)
      | (with_reducible exact ih1 _ _ _ _ _ _ _)
      | (with_reducible exact watch_Right.mono _ _ _ _ _)
      | (with_reducible exact LeO.refl _)
      | (with_reducible exact LeO.none _)
      | (with_reducible refine LeO.ite ?_ ?_)
      | (with_reducible refine LeO.bind ?_ (fun _ => ?_))
      | exact ih0 _ _ _ _ _ _ _
      | exact ih1 _ _ _ _ _ _ _
      | exact watch_Right.mono _ _ _ _ _
      | exact LeO.none _
      | refine LeO.ite ?_ ?_
      | refine LeO.bind ?_ (fun _ => ?_)
    · intro y0 y1 y2 y3 y4 y5 y6
      unfold watch_Next.j1
      repeat' first
      | (with_reducible exact ih0 _ _ _ _ _ _ _)
      | (with_reducible exact ih1 _ _ _ _ _ _ _)
      | (with_reducible exact watch_Right.mono _ _ _ _ _)
      | (with_reducible exact LeO.refl _)
      | (with_reducible exact LeO.none _)
      | (with_reducible refine LeO.ite ?_ ?_)
      | (with_reducible refine LeO.bind ?_ (fun _ => ?_))
      | exact ih0 _ _ _ _ _ _ _
      | exact ih1 _ _ _ _ _ _ _
      | exact watch_Right.mono _ _ _ _ _
      | exact LeO.none _
      | refine LeO.ite ?_ ?_
      | refine LeO.bind ?_ (fun _ => ?_)
theorem watch_Next.mono : ∀ a0 a1 a2 a3 a4 a5 k, LeO (watch_Next.f k a0 a1 a2 a3 a4 a5) (watch_Next.f (k + 1) a0 a1 a2 a3 a4 a5) := by
  intro a0 a1 a2 a3 a4 a5 k
  obtain ⟨ih0, ih1⟩ := watch_Next.mono_l k
  unfold watch_Next.f
  repeat' first
      | (with_reducible exact ih0 _ _ _ _ _ _ _)
      | (with_reducible exact ih1 _ _ _ _ _ _ _)
      | (with_reducible exact watch_Right.mono _ _ _ _ _)
      | (with_reducible exact LeO.refl _)
      | (with_reducible exact LeO.none _)
      | (with_reducible refine LeO.ite ?_ ?_)
      | (with_reducible refine LeO.bind ?_ (fun _ => ?_))
      | exact ih0 _ _ _ _ _ _ _
      | exact ih1 _ _ _ _ _ _ _
      | exact watch_Right.mono _ _ _ _ _
      | exact LeO.none _
      | refine LeO.ite ?_ ?_
      | refine LeO.bind ?_ (fun _ => ?_)
set_option maxHeartbeats 8000000 in
set_option maxRecDepth 100000 in
theorem watch_Next.calls (k : Nat) (a0_0 : Int) (a0_1 : Int) (a0_2 : Int) (a0_3 : Int) (a1_0 : Int) (a1_1 : Int) (r1 : Int) (r2 : Int) (r3 : Int) (r4 : Int) (w : World) (h : watch_Next.f k a0_0 a0_1 a0_2 a0_3 a1_0 a1_1 = some (r1, r2, r3, r4)) :
    Calls Try.prog 10 #[.agg #[.int .i64 a0_0, .int .i64 a0_1, .int .i64 a0_2, .int .i64 a0_3], .agg #[.int .i64 a1_0, .int .i64 a1_1]] w fun e w' => e = .returned (.agg #[.int .i64 r1, .int .i64 r2, .int .i64 r3, .int .i64 r4]) ∧ Below w.heap.size w w' := by
  have hu23 := Try.underlying23
  have hu29 := Try.underlying29
  have HB := Aside0.mk (Below.refl w.heap.size w)
  have H : ((watch_Right.f k a0_0 a0_1 a0_2 a0_3).bind fun t108 => (if t108 = true then (if a1_0 < 1 then (watch_Next.j0 k true a0_0 a0_1 a0_2 a0_3 a1_0 a1_1) else (watch_Next.j0 k (decide (a1_0 > 5)) a0_0 a0_1 a0_2 a0_3 a1_0 a1_1)) else (watch_Next.j0 k true a0_0 a0_1 a0_2 a0_3 a1_0 a1_1))) = some (r1, r2, r3, r4) := h
  clear h
  have HC3 := Aside0.mk H
  clear H
  go_enter Try.func10, Try.ntmps10
  go_upto_region 1 with (first | ((with_reducible refine gate_dst (N := 2) rfl ?_); refine box_event ?hg (N := 2) ?hd (cs := #[.int .i64 a0_0, .int .i64 a0_1, .int .i64 a0_2, .int .i64 a0_3]) (t := 23) ?hr ?_; (case hd => rfl); (case hg => rfl); (case hr => first | (go_simp; done) | (go_simp; rfl)); intro gb105 hg w4 hbox hb; have n0_ := Aside0.mk (below_step (by repeat (first | (with_reducible first | exact HB.out | apply below_alloc | apply pw_below_drewN | apply below_drew1) | exact HB.out)) hb); have n1_ := Aside0.mk (hbox); have n2_ := Aside0.mk ((by rw [hg]; exact (below_size (by repeat (first | (with_reducible first | exact HB.out | apply below_alloc | apply pw_below_drewN | apply below_drew1) | exact HB.out))) : w.heap.size ≤ gb105)); have n3_ := Aside0.mk ((by rw [hg]; exact (below_size (by repeat (first | (with_reducible first | exact HB.out | apply below_alloc | apply pw_below_drewN | apply below_drew1) | exact HB.out))) : w.heap.size ≤ gb105)); clear HB; have HB := n0_; have BK105 := n1_; have GW105 := n2_; have GE105 := n3_; clear n0_ n1_ n2_ n3_; clear hb hbox hg) | ((with_reducible refine gate_dst (N := 3) rfl ?_); refine box_event ?hg (N := 3) ?hd (cs := #[.int .i64 a1_0, .int .i64 a1_1]) (t := 29) ?hr ?_; (case hd => rfl); (case hg => rfl); (case hr => first | (go_simp; done) | (go_simp; rfl)); intro gb106 hg w5 hbox hb; have n0_ := Aside0.mk (blk_below (g := gb105) (o := .cells #[.int .i64 a0_0, .int .i64 a0_1, .int .i64 a0_2, .int .i64 a0_3] 23 (0, 0)) (by (with_reducible repeat (first | refine blk_drewN ?_ _ | refine blk_drew ?_ | refine blk_alloc ?_ _)); exact BK105.out) hb); have n1_ := Aside0.mk (below_step (by repeat (first | (with_reducible first | exact HB.out | apply below_alloc | apply pw_below_drewN | apply below_drew1 | refine below_set ?_ GE105.out) | exact HB.out)) hb); have n2_ := Aside0.mk (hbox); have n3_ := Aside0.mk ((by rw [hg]; exact (below_size (by repeat (first | (with_reducible first | exact HB.out | apply below_alloc | apply pw_below_drewN | apply below_drew1 | refine below_set ?_ GE105.out) | exact HB.out))) : w.heap.size ≤ gb106)); have n4_ := Aside0.mk ((by rw [hg]; exact (below_size (by repeat (first | (with_reducible first | exact HB.out | apply below_alloc | apply pw_below_drewN | apply below_drew1 | refine below_set ?_ GE105.out) | exact HB.out))) : w.heap.size ≤ gb106)); have n5_ := Aside0.mk ((by rw [hg]; exact Nat.ne_of_lt (blk_lt (g := gb105) (o := .cells #[.int .i64 a0_0, .int .i64 a0_1, .int .i64 a0_2, .int .i64 a0_3] 23 (0, 0)) (by (with_reducible repeat (first | refine blk_drewN ?_ _ | refine blk_drew ?_ | refine blk_alloc ?_ _)); exact BK105.out)) : gb105 ≠ gb106)); have n6_ := Aside0.mk ((by rw [hg]; exact Nat.ne_of_gt (blk_lt (g := gb105) (o := .cells #[.int .i64 a0_0, .int .i64 a0_1, .int .i64 a0_2, .int .i64 a0_3] 23 (0, 0)) (by (with_reducible repeat (first | refine blk_drewN ?_ _ | refine blk_drew ?_ | refine blk_alloc ?_ _)); exact BK105.out)) : gb106 ≠ gb105)); clear BK105; clear HB; have BK105 := n0_; have HB := n1_; have BK106 := n2_; have GW106 := n3_; have GE106 := n4_; have NB105_106 := n5_; have NB106_105 := n6_; clear n0_ n1_ n2_ n3_ n4_ n5_ n6_; clear hb hbox hg) | ((with_reducible refine gate_dst (N := 4) rfl ?_); refine box_event ?hg (N := 4) ?hd (cs := #[.int .i64 0, .int .i64 0, .int .i64 0, .int .i64 0]) (t := 23) ?hr ?_; (case hd => rfl); (case hg => rfl); (case hr => first | (go_simp; done) | (go_simp; rfl)); intro gb107 hg w6 hbox hb; have n0_ := Aside0.mk (blk_below (g := gb105) (o := .cells #[.int .i64 a0_0, .int .i64 a0_1, .int .i64 a0_2, .int .i64 a0_3] 23 (0, 0)) (by (with_reducible repeat (first | refine blk_drewN ?_ _ | refine blk_drew ?_ | refine blk_alloc ?_ _)); exact BK105.out) hb); have n1_ := Aside0.mk (blk_below (g := gb106) (o := .cells #[.int .i64 a1_0, .int .i64 a1_1] 29 (0, 0)) (by (with_reducible repeat (first | refine blk_drewN ?_ _ | refine blk_drew ?_ | refine blk_alloc ?_ _)); exact BK106.out) hb); have n2_ := Aside0.mk (below_step (by repeat (first | (with_reducible first | exact HB.out | apply below_alloc | apply pw_below_drewN | apply below_drew1 | refine below_set ?_ GE105.out | refine below_set ?_ GE106.out) | exact HB.out)) hb); have n3_ := Aside0.mk (hbox); have n4_ := Aside0.mk ((by rw [hg]; exact (below_size (by repeat (first | (with_reducible first | exact HB.out | apply below_alloc | apply pw_below_drewN | apply below_drew1 | refine below_set ?_ GE105.out | refine below_set ?_ GE106.out) | exact HB.out))) : w.heap.size ≤ gb107)); have n5_ := Aside0.mk ((by rw [hg]; exact (below_size (by repeat (first | (with_reducible first | exact HB.out | apply below_alloc | apply pw_below_drewN | apply below_drew1 | refine below_set ?_ GE105.out | refine below_set ?_ GE106.out) | exact HB.out))) : w.heap.size ≤ gb107)); have n6_ := Aside0.mk ((by rw [hg]; exact Nat.ne_of_lt (blk_lt (g := gb105) (o := .cells #[.int .i64 a0_0, .int .i64 a0_1, .int .i64 a0_2, .int .i64 a0_3] 23 (0, 0)) (by (with_reducible repeat (first | refine blk_drewN ?_ _ | refine blk_drew ?_ | refine blk_alloc ?_ _)); exact BK105.out)) : gb105 ≠ gb107)); have n7_ := Aside0.mk ((by rw [hg]; exact Nat.ne_of_gt (blk_lt (g := gb105) (o := .cells #[.int .i64 a0_0, .int .i64 a0_1, .int .i64 a0_2, .int .i64 a0_3] 23 (0, 0)) (by (with_reducible repeat (first | refine blk_drewN ?_ _ | refine blk_drew ?_ | refine blk_alloc ?_ _)); exact BK105.out)) : gb107 ≠ gb105)); have n8_ := Aside0.mk ((by rw [hg]; exact Nat.ne_of_lt (blk_lt (g := gb106) (o := .cells #[.int .i64 a1_0, .int .i64 a1_1] 29 (0, 0)) (by (with_reducible repeat (first | refine blk_drewN ?_ _ | refine blk_drew ?_ | refine blk_alloc ?_ _)); exact BK106.out)) : gb106 ≠ gb107)); have n9_ := Aside0.mk ((by rw [hg]; exact Nat.ne_of_gt (blk_lt (g := gb106) (o := .cells #[.int .i64 a1_0, .int .i64 a1_1] 29 (0, 0)) (by (with_reducible repeat (first | refine blk_drewN ?_ _ | refine blk_drew ?_ | refine blk_alloc ?_ _)); exact BK106.out)) : gb107 ≠ gb106)); clear BK105; clear BK106; clear HB; have BK105 := n0_; have BK106 := n1_; have HB := n2_; have BK107 := n3_; have GW107 := n4_; have GE107 := n5_; have NB105_107 := n6_; have NB107_105 := n7_; have NB106_107 := n8_; have NB107_106 := n9_; clear n0_ n1_ n2_ n3_ n4_ n5_ n6_ n7_ n8_ n9_; clear hb hbox hg))
  (try simp only [Act.put, List.setIfInBounds_toArray, List.set_cons_zero, List.set_cons_succ])
  go_cut [5] (fun v5 wc => ∃ (kq : Nat) (x5_2 : Bool), v5 = .bool x5_2 ∧ Aside0 (watch_Next.j0 kq x5_2 a0_0 a0_1 a0_2 a0_3 a1_0 a1_1 = some (r1, r2, r3, r4)) ∧ Aside0 (kq ≤ k) ∧ Aside0 (wc.heap[gb105]? = some (.cells #[.int .i64 a0_0, .int .i64 a0_1, .int .i64 a0_2, .int .i64 a0_3] 23 (0, 0))) ∧ Aside0 (wc.heap[gb106]? = some (.cells #[.int .i64 a1_0, .int .i64 a1_1] 29 (0, 0))) ∧ Aside0 (wc.heap[gb107]? = some (.cells #[.int .i64 0, .int .i64 0, .int .i64 0, .int .i64 0] 23 (0, 0))) ∧ Aside0 (Below w.heap.size w wc))
  case first =>
    have H := HC3.out
    clear HC3
    replace H := Option.bind_eq_some_iff.mp H
    obtain ⟨t108, A70, H⟩ := H
    replace H : (if t108 = true then (if a1_0 < 1 then (watch_Next.j0 k true a0_0 a0_1 a0_2 a0_3 a1_0 a1_1) else (watch_Next.j0 k (decide (a1_0 > 5)) a0_0 a0_1 a0_2 a0_3 a1_0 a1_1)) else (watch_Next.j0 k true a0_0 a0_1 a0_2 a0_3 a1_0 a1_1)) = some (r1, r2, r3, r4) := H
    have A7 := Aside0.mk A70
    clear A70
    by_cases c8 : t108 = true
    · subst c8
      have H1 : (if a1_0 < 1 then (watch_Next.j0 k true a0_0 a0_1 a0_2 a0_3 a1_0 a1_1) else (watch_Next.j0 k (decide (a1_0 > 5)) a0_0 a0_1 a0_2 a0_3 a1_0 a1_1)) = some (r1, r2, r3, r4) := by rw [if_pos rfl] at H; exact H
      clear H
      have H := H1
      clear H1
      by_cases c9 : a1_0 < 1
      · rw [if_pos c9] at H
        have c9b0 : decide (a1_0 < 1) = true := decide_eq_true c9
        clear c9
        (first | rw [c9b0] | (simp only [i64_w, i32_w]; rw [c9b0]) | skip)
        have H' := Aside0.mk H
        clear H
        have hnb10 := NB105_106.out
        have hnc10 := NB106_105.out
        have hnb11 := NB105_107.out
        have hnc11 := NB107_105.out
        have hcz12_0 : w6.cell? ⟨gb105, 0, none⟩ = some (.int .i64 a0_0) := (blk_cell BK105.out 0).trans rfl
        have hcz12_1 : w6.cell? ⟨gb105, 1, none⟩ = some (.int .i64 a0_1) := (blk_cell BK105.out 1).trans rfl
        have hcz12_2 : w6.cell? ⟨gb105, 2, none⟩ = some (.int .i64 a0_2) := (blk_cell BK105.out 2).trans rfl
        have hcz12_3 : w6.cell? ⟨gb105, 3, none⟩ = some (.int .i64 a0_3) := (blk_cell BK105.out 3).trans rfl
        have hfz12_0 := blk_frozen BK105.out 0
        have hfz12_1 := blk_frozen BK105.out 1
        have hfz12_2 := blk_frozen BK105.out 2
        have hfz12_3 := blk_frozen BK105.out 3
        go_wp2_with (first | ((with_reducible refine gate_callee (f := 12) rfl ?_); refine goesL_ (some 7) rfl rfl Try.func12 (by kernel_rfl) rfl #[.agg #[.int .i64 a0_0, .int .i64 a0_1, .int .i64 a0_2, .int .i64 a0_3]] rfl (by (try simp only [List.map_toArray, List.map_cons, List.map_nil]); first | done | rfl | (simp only [List.length_drop, List.length_take]; rfl)) ?_; (with_reducible refine (watch_Right.calls k a0_0 a0_1 a0_2 a0_3 true _ A7.out).mono ?_); rintro e w13 ⟨rfl, hb⟩; refine ⟨_, rfl, ?_⟩; have n0_ := Aside0.mk (blk_below (g := gb105) (o := .cells #[.int .i64 a0_0, .int .i64 a0_1, .int .i64 a0_2, .int .i64 a0_3] 23 (0, 0)) (by (with_reducible repeat (first | refine blk_drewN ?_ _ | refine blk_drew ?_ | refine blk_alloc ?_ _)); exact BK105.out) hb); have n1_ := Aside0.mk (blk_below (g := gb106) (o := .cells #[.int .i64 a1_0, .int .i64 a1_1] 29 (0, 0)) (by (with_reducible repeat (first | refine blk_drewN ?_ _ | refine blk_drew ?_ | refine blk_alloc ?_ _)); exact BK106.out) hb); have n2_ := Aside0.mk (blk_below (g := gb107) (o := .cells #[.int .i64 0, .int .i64 0, .int .i64 0, .int .i64 0] 23 (0, 0)) (by (with_reducible repeat (first | refine blk_drewN ?_ _ | refine blk_drew ?_ | refine blk_alloc ?_ _)); exact BK107.out) hb); have n3_ := Aside0.mk (below_step (by repeat (first | (with_reducible first | exact HB.out | apply below_alloc | apply pw_below_drewN | apply below_drew1 | refine below_set ?_ GE105.out | refine below_set ?_ GE106.out | refine below_set ?_ GE107.out) | exact HB.out)) hb); clear BK105; clear BK106; clear BK107; clear HB; have BK105 := n0_; have BK106 := n1_; have BK107 := n2_; have HB := n3_; clear n0_ n1_ n2_ n3_; (try clear hb); (try clear hb2); (try clear hk); (try clear hi); have hnb14 := NB106_107.out; have hnc14 := NB107_106.out; have hcz15_0 : w13.cell? ⟨gb106, 0, none⟩ = some (.int .i64 a1_0) := (blk_cell BK106.out 0).trans rfl; have hcz15_1 : w13.cell? ⟨gb106, 1, none⟩ = some (.int .i64 a1_1) := (blk_cell BK106.out 1).trans rfl; have hfz15_0 := blk_frozen BK106.out 0; have hfz15_1 := blk_frozen BK106.out 1))
        go_meet
        case rel => exact ⟨_, (true), (by first | rfl | (simp; done) | (simp [*]; done)), H', ⟨by first | omega | exact Nat.le_refl _⟩, ⟨by (with_reducible repeat (first | refine blk_drewN ?_ _ | refine blk_drew ?_ | refine blk_alloc ?_ _)); exact BK105.out⟩, ⟨by (with_reducible repeat (first | refine blk_drewN ?_ _ | refine blk_drew ?_ | refine blk_alloc ?_ _)); exact BK106.out⟩, ⟨by (with_reducible repeat (first | refine blk_drewN ?_ _ | refine blk_drew ?_ | refine blk_alloc ?_ _)); exact BK107.out⟩, ⟨by repeat (first | (with_reducible first | exact HB.out | apply below_alloc | apply pw_below_drewN | apply below_drew1 | refine below_set ?_ GE105.out | refine below_set ?_ GE106.out | refine below_set ?_ GE107.out) | exact HB.out)⟩⟩
      · rw [if_neg c9] at H
        have c9b0 : decide (a1_0 < 1) = false := decide_eq_false c9
        clear c9
        (first | rw [c9b0] | (simp only [i64_w, i32_w]; rw [c9b0]) | skip)
        have H' := Aside0.mk H
        clear H
        have hnb16 := NB105_106.out
        have hnc16 := NB106_105.out
        have hnb17 := NB105_107.out
        have hnc17 := NB107_105.out
        have hcz18_0 : w6.cell? ⟨gb105, 0, none⟩ = some (.int .i64 a0_0) := (blk_cell BK105.out 0).trans rfl
        have hcz18_1 : w6.cell? ⟨gb105, 1, none⟩ = some (.int .i64 a0_1) := (blk_cell BK105.out 1).trans rfl
        have hcz18_2 : w6.cell? ⟨gb105, 2, none⟩ = some (.int .i64 a0_2) := (blk_cell BK105.out 2).trans rfl
        have hcz18_3 : w6.cell? ⟨gb105, 3, none⟩ = some (.int .i64 a0_3) := (blk_cell BK105.out 3).trans rfl
        have hfz18_0 := blk_frozen BK105.out 0
        have hfz18_1 := blk_frozen BK105.out 1
        have hfz18_2 := blk_frozen BK105.out 2
        have hfz18_3 := blk_frozen BK105.out 3
        go_wp2_with (first | ((with_reducible refine gate_callee (f := 12) rfl ?_); refine goesL_ (some 7) rfl rfl Try.func12 (by kernel_rfl) rfl #[.agg #[.int .i64 a0_0, .int .i64 a0_1, .int .i64 a0_2, .int .i64 a0_3]] rfl (by (try simp only [List.map_toArray, List.map_cons, List.map_nil]); first | done | rfl | (simp only [List.length_drop, List.length_take]; rfl)) ?_; (with_reducible refine (watch_Right.calls k a0_0 a0_1 a0_2 a0_3 true _ A7.out).mono ?_); rintro e w19 ⟨rfl, hb⟩; refine ⟨_, rfl, ?_⟩; have n0_ := Aside0.mk (blk_below (g := gb105) (o := .cells #[.int .i64 a0_0, .int .i64 a0_1, .int .i64 a0_2, .int .i64 a0_3] 23 (0, 0)) (by (with_reducible repeat (first | refine blk_drewN ?_ _ | refine blk_drew ?_ | refine blk_alloc ?_ _)); exact BK105.out) hb); have n1_ := Aside0.mk (blk_below (g := gb106) (o := .cells #[.int .i64 a1_0, .int .i64 a1_1] 29 (0, 0)) (by (with_reducible repeat (first | refine blk_drewN ?_ _ | refine blk_drew ?_ | refine blk_alloc ?_ _)); exact BK106.out) hb); have n2_ := Aside0.mk (blk_below (g := gb107) (o := .cells #[.int .i64 0, .int .i64 0, .int .i64 0, .int .i64 0] 23 (0, 0)) (by (with_reducible repeat (first | refine blk_drewN ?_ _ | refine blk_drew ?_ | refine blk_alloc ?_ _)); exact BK107.out) hb); have n3_ := Aside0.mk (below_step (by repeat (first | (with_reducible first | exact HB.out | apply below_alloc | apply pw_below_drewN | apply below_drew1 | refine below_set ?_ GE105.out | refine below_set ?_ GE106.out | refine below_set ?_ GE107.out) | exact HB.out)) hb); clear BK105; clear BK106; clear BK107; clear HB; have BK105 := n0_; have BK106 := n1_; have BK107 := n2_; have HB := n3_; clear n0_ n1_ n2_ n3_; (try clear hb); (try clear hb2); (try clear hk); (try clear hi); have hnb20 := NB106_107.out; have hnc20 := NB107_106.out; have hcz21_0 : w19.cell? ⟨gb106, 0, none⟩ = some (.int .i64 a1_0) := (blk_cell BK106.out 0).trans rfl; have hcz21_1 : w19.cell? ⟨gb106, 1, none⟩ = some (.int .i64 a1_1) := (blk_cell BK106.out 1).trans rfl; have hfz21_0 := blk_frozen BK106.out 0; have hfz21_1 := blk_frozen BK106.out 1))
        go_meet
        case rel => exact ⟨_, (decide (a1_0 > 5)), (by first | rfl | (simp; done) | (simp [*]; done)), H', ⟨by first | omega | exact Nat.le_refl _⟩, ⟨by (with_reducible repeat (first | refine blk_drewN ?_ _ | refine blk_drew ?_ | refine blk_alloc ?_ _)); exact BK105.out⟩, ⟨by (with_reducible repeat (first | refine blk_drewN ?_ _ | refine blk_drew ?_ | refine blk_alloc ?_ _)); exact BK106.out⟩, ⟨by (with_reducible repeat (first | refine blk_drewN ?_ _ | refine blk_drew ?_ | refine blk_alloc ?_ _)); exact BK107.out⟩, ⟨by repeat (first | (with_reducible first | exact HB.out | apply below_alloc | apply pw_below_drewN | apply below_drew1 | refine below_set ?_ GE105.out | refine below_set ?_ GE106.out | refine below_set ?_ GE107.out) | exact HB.out)⟩⟩
    · replace c8 := Bool.eq_false_iff.mpr c8
      subst c8
      have H1 : (watch_Next.j0 k true a0_0 a0_1 a0_2 a0_3 a1_0 a1_1) = some (r1, r2, r3, r4) := by rw [if_neg (show ¬ (false = true) by decide)] at H; exact H
      clear H
      have H := H1
      clear H1
      have H' := Aside0.mk H
      clear H
      have hnb22 := NB105_106.out
      have hnc22 := NB106_105.out
      have hnb23 := NB105_107.out
      have hnc23 := NB107_105.out
      have hcz24_0 : w6.cell? ⟨gb105, 0, none⟩ = some (.int .i64 a0_0) := (blk_cell BK105.out 0).trans rfl
      have hcz24_1 : w6.cell? ⟨gb105, 1, none⟩ = some (.int .i64 a0_1) := (blk_cell BK105.out 1).trans rfl
      have hcz24_2 : w6.cell? ⟨gb105, 2, none⟩ = some (.int .i64 a0_2) := (blk_cell BK105.out 2).trans rfl
      have hcz24_3 : w6.cell? ⟨gb105, 3, none⟩ = some (.int .i64 a0_3) := (blk_cell BK105.out 3).trans rfl
      have hfz24_0 := blk_frozen BK105.out 0
      have hfz24_1 := blk_frozen BK105.out 1
      have hfz24_2 := blk_frozen BK105.out 2
      have hfz24_3 := blk_frozen BK105.out 3
      go_wp2_with (first | ((with_reducible refine gate_callee (f := 12) rfl ?_); refine goesL_ (some 7) rfl rfl Try.func12 (by kernel_rfl) rfl #[.agg #[.int .i64 a0_0, .int .i64 a0_1, .int .i64 a0_2, .int .i64 a0_3]] rfl (by (try simp only [List.map_toArray, List.map_cons, List.map_nil]); first | done | rfl | (simp only [List.length_drop, List.length_take]; rfl)) ?_; (with_reducible refine (watch_Right.calls k a0_0 a0_1 a0_2 a0_3 false _ A7.out).mono ?_); rintro e w25 ⟨rfl, hb⟩; refine ⟨_, rfl, ?_⟩; have n0_ := Aside0.mk (blk_below (g := gb105) (o := .cells #[.int .i64 a0_0, .int .i64 a0_1, .int .i64 a0_2, .int .i64 a0_3] 23 (0, 0)) (by (with_reducible repeat (first | refine blk_drewN ?_ _ | refine blk_drew ?_ | refine blk_alloc ?_ _)); exact BK105.out) hb); have n1_ := Aside0.mk (blk_below (g := gb106) (o := .cells #[.int .i64 a1_0, .int .i64 a1_1] 29 (0, 0)) (by (with_reducible repeat (first | refine blk_drewN ?_ _ | refine blk_drew ?_ | refine blk_alloc ?_ _)); exact BK106.out) hb); have n2_ := Aside0.mk (blk_below (g := gb107) (o := .cells #[.int .i64 0, .int .i64 0, .int .i64 0, .int .i64 0] 23 (0, 0)) (by (with_reducible repeat (first | refine blk_drewN ?_ _ | refine blk_drew ?_ | refine blk_alloc ?_ _)); exact BK107.out) hb); have n3_ := Aside0.mk (below_step (by repeat (first | (with_reducible first | exact HB.out | apply below_alloc | apply pw_below_drewN | apply below_drew1 | refine below_set ?_ GE105.out | refine below_set ?_ GE106.out | refine below_set ?_ GE107.out) | exact HB.out)) hb); clear BK105; clear BK106; clear BK107; clear HB; have BK105 := n0_; have BK106 := n1_; have BK107 := n2_; have HB := n3_; clear n0_ n1_ n2_ n3_; (try clear hb); (try clear hb2); (try clear hk); (try clear hi)))
      go_meet
      case rel => exact ⟨_, (true), (by first | rfl | (simp; done) | (simp [*]; done)), H', ⟨by first | omega | exact Nat.le_refl _⟩, ⟨by (with_reducible repeat (first | refine blk_drewN ?_ _ | refine blk_drew ?_ | refine blk_alloc ?_ _)); exact BK105.out⟩, ⟨by (with_reducible repeat (first | refine blk_drewN ?_ _ | refine blk_drew ?_ | refine blk_alloc ?_ _)); exact BK106.out⟩, ⟨by (with_reducible repeat (first | refine blk_drewN ?_ _ | refine blk_drew ?_ | refine blk_alloc ?_ _)); exact BK107.out⟩, ⟨by repeat (first | (with_reducible first | exact HB.out | apply below_alloc | apply pw_below_drewN | apply below_drew1 | refine below_set ?_ GE105.out | refine below_set ?_ GE106.out | refine below_set ?_ GE107.out) | exact HB.out)⟩⟩
  case rest =>
    clear HC3
    try clear c1
    try clear c2
    try clear p2
    try clear c8
    try clear c9
    try clear c9b0
    try clear c10
    try clear c11
    try clear c12
    try clear c14
    try clear c16
    try clear c17
    try clear c20
    try clear c22
    try clear c23
    try clear hcz12_0
    try clear hcz12_1
    try clear hcz12_2
    try clear hcz12_3
    try clear hcz15_0
    try clear hcz15_1
    try clear hcz18_0
    try clear hcz18_1
    try clear hcz18_2
    try clear hcz18_3
    try clear hcz21_0
    try clear hcz21_1
    try clear hcz24_0
    try clear hcz24_1
    try clear hcz24_2
    try clear hcz24_3
    try clear hfz12_0
    try clear hfz12_1
    try clear hfz12_2
    try clear hfz12_3
    try clear hfz15_0
    try clear hfz15_1
    try clear hfz18_0
    try clear hfz18_1
    try clear hfz18_2
    try clear hfz18_3
    try clear hfz21_0
    try clear hfz21_1
    try clear hfz24_0
    try clear hfz24_1
    try clear hfz24_2
    try clear hfz24_3
    obtain ⟨kq, x5_2, rfl, HA, HJ2, BK105, BK106, BK107, HB⟩ := hcut
    cases kq with
    | zero => exact absurd HA.out (by simp [watch_Next.j0])
    | succ kj2 =>
      have H := HA.out
      clear HA
      simp only [watch_Next.j0] at H
      by_cases c26 : x5_2 = true
      · subst c26
        have H1 : (some (a0_0, a0_1, a0_2, a0_3)) = some (r1, r2, r3, r4) := by rw [if_pos rfl] at H; exact H
        clear H
        have H := H1
        clear H1
        simp only [Option.some.injEq, Prod.mk.injEq] at H
        obtain ⟨rfl, rfl, rfl, rfl⟩ := H
        have hnb27 := NB105_106.out
        have hnc27 := NB106_105.out
        have hnb28 := NB105_107.out
        have hnc28 := NB107_105.out
        have hcz29_0 : wc.cell? ⟨gb105, 0, none⟩ = some (.int .i64 a0_0) := (blk_cell BK105.out 0).trans rfl
        have hcz29_1 : wc.cell? ⟨gb105, 1, none⟩ = some (.int .i64 a0_1) := (blk_cell BK105.out 1).trans rfl
        have hcz29_2 : wc.cell? ⟨gb105, 2, none⟩ = some (.int .i64 a0_2) := (blk_cell BK105.out 2).trans rfl
        have hcz29_3 : wc.cell? ⟨gb105, 3, none⟩ = some (.int .i64 a0_3) := (blk_cell BK105.out 3).trans rfl
        have hfz29_0 := blk_frozen BK105.out 0
        have hfz29_1 := blk_frozen BK105.out 1
        have hfz29_2 := blk_frozen BK105.out 2
        have hfz29_3 := blk_frozen BK105.out 3
        have hnb30 := NB107_106.out
        have hnc30 := NB106_107.out
        have hcz31_0 : wc.cell? ⟨gb107, 0, none⟩ = some (.int .i64 0) := (blk_cell BK107.out 0).trans rfl
        have hcz31_1 : wc.cell? ⟨gb107, 1, none⟩ = some (.int .i64 0) := (blk_cell BK107.out 1).trans rfl
        have hcz31_2 : wc.cell? ⟨gb107, 2, none⟩ = some (.int .i64 0) := (blk_cell BK107.out 2).trans rfl
        have hcz31_3 : wc.cell? ⟨gb107, 3, none⟩ = some (.int .i64 0) := (blk_cell BK107.out 3).trans rfl
        have hfz31_0 := blk_frozen BK107.out 0
        have hfz31_1 := blk_frozen BK107.out 1
        have hfz31_2 := blk_frozen BK107.out 2
        have hfz31_3 := blk_frozen BK107.out 3
        go_wp2
        refine bodyPost_ret (results_cell_row rfl _ _ gb107 23 #[.int .i64 a0_0, .int .i64 a0_1, .int .i64 a0_2, .int .i64 a0_3] (0, 0) _ rfl (by (with_reducible repeat (first | refine blk_drewN ?_ _ | refine blk_drew ?_ | refine blk_alloc ?_ _)); refine blk_put (cs := #[.int .i64 a0_0, .int .i64 a0_1, .int .i64 a0_2, .int .i64 0]) ?_ 3 _ rfl; (with_reducible repeat (first | refine blk_drewN ?_ _ | refine blk_drew ?_ | refine blk_alloc ?_ _)); refine blk_put (cs := #[.int .i64 a0_0, .int .i64 a0_1, .int .i64 0, .int .i64 0]) ?_ 2 _ rfl; (with_reducible repeat (first | refine blk_drewN ?_ _ | refine blk_drew ?_ | refine blk_alloc ?_ _)); refine blk_put (cs := #[.int .i64 a0_0, .int .i64 0, .int .i64 0, .int .i64 0]) ?_ 1 _ rfl; (with_reducible repeat (first | refine blk_drewN ?_ _ | refine blk_drew ?_ | refine blk_alloc ?_ _)); refine blk_put (cs := #[.int .i64 0, .int .i64 0, .int .i64 0, .int .i64 0]) ?_ 0 _ rfl; (with_reducible repeat (first | refine blk_drewN ?_ _ | refine blk_drew ?_ | refine blk_alloc ?_ _)); exact BK107.out) Try.underlying23 rfl (by kernel_rfl)) rfl ?_
        exact ⟨by first | rfl | (simp [errW_none, errW_some] <;> rfl) | (simp [*, errW_none, errW_some] <;> rfl), by repeat (first | (with_reducible first | exact HB.out | apply below_alloc | apply pw_below_drewN | apply below_drew1 | refine below_set ?_ GE105.out | refine below_set ?_ GE106.out | refine below_set ?_ GE107.out) | exact HB.out)⟩
      · replace c26 := Bool.eq_false_iff.mpr c26
        subst c26
        have H1 : (if a1_0 = 5 then (some (0, 0, 0, 0)) else (if a1_0 = 1 then (some (1, 0, 0, 0)) else ((watch_Valid.f a0_0 a0_1 a0_2 a0_3).bind fun t109 => (if t109 = true then (if a1_0 = 4 then (some (3, a0_1, a0_2, a0_3)) else (if (wrap64 (a0_3 + 1)) > 65536 then (some (3, a0_1, a0_2, wrap64 (a0_3 + 1))) else (if a0_0 = 1 then (watch_Next.j1 kj2 (a1_0 == 3) a0_0 a0_1 a0_2 (wrap64 (a0_3 + 1)) a1_0 a1_1) else (watch_Next.j1 kj2 false a0_0 a0_1 a0_2 (wrap64 (a0_3 + 1)) a1_0 a1_1)))) else (some (a0_0, a0_1, a0_2, a0_3)))))) = some (r1, r2, r3, r4) := by rw [if_neg (show ¬ (false = true) by decide)] at H; exact H
        clear H
        have H := H1
        clear H1
        by_cases c32 : a1_0 = 5
        · rw [if_pos c32] at H
          have c32b0 : (a1_0 == 5) = true := beq_iff_eq.mpr c32
          have c32b1 : (a1_0 != 5) = false := bne_eq_false_iff_eq.mpr c32
          clear c32
          simp only [Option.some.injEq, Prod.mk.injEq] at H
          obtain ⟨rfl, rfl, rfl, rfl⟩ := H
          have hnb33 := NB106_105.out
          have hnc33 := NB105_106.out
          have hnb34 := NB106_107.out
          have hnc34 := NB107_106.out
          have hcz35_0 : wc.cell? ⟨gb106, 0, none⟩ = some (.int .i64 a1_0) := (blk_cell BK106.out 0).trans rfl
          have hcz35_1 : wc.cell? ⟨gb106, 1, none⟩ = some (.int .i64 a1_1) := (blk_cell BK106.out 1).trans rfl
          have hfz35_0 := blk_frozen BK106.out 0
          have hfz35_1 := blk_frozen BK106.out 1
          have hnb36 := NB107_105.out
          have hnc36 := NB105_107.out
          have hcz37_0 : wc.cell? ⟨gb107, 0, none⟩ = some (.int .i64 0) := (blk_cell BK107.out 0).trans rfl
          have hcz37_1 : wc.cell? ⟨gb107, 1, none⟩ = some (.int .i64 0) := (blk_cell BK107.out 1).trans rfl
          have hcz37_2 : wc.cell? ⟨gb107, 2, none⟩ = some (.int .i64 0) := (blk_cell BK107.out 2).trans rfl
          have hcz37_3 : wc.cell? ⟨gb107, 3, none⟩ = some (.int .i64 0) := (blk_cell BK107.out 3).trans rfl
          have hfz37_0 := blk_frozen BK107.out 0
          have hfz37_1 := blk_frozen BK107.out 1
          have hfz37_2 := blk_frozen BK107.out 2
          have hfz37_3 := blk_frozen BK107.out 3
          go_wp2
          refine bodyPost_ret (results_cell_row rfl _ _ gb107 23 #[.int .i64 0, .int .i64 0, .int .i64 0, .int .i64 0] (0, 0) _ rfl (by (with_reducible repeat (first | refine blk_drewN ?_ _ | refine blk_drew ?_ | refine blk_alloc ?_ _)); refine blk_put (cs := #[.int .i64 0, .int .i64 0, .int .i64 0, .int .i64 0]) ?_ 3 _ rfl; (with_reducible repeat (first | refine blk_drewN ?_ _ | refine blk_drew ?_ | refine blk_alloc ?_ _)); refine blk_put (cs := #[.int .i64 0, .int .i64 0, .int .i64 0, .int .i64 0]) ?_ 2 _ rfl; (with_reducible repeat (first | refine blk_drewN ?_ _ | refine blk_drew ?_ | refine blk_alloc ?_ _)); refine blk_put (cs := #[.int .i64 0, .int .i64 0, .int .i64 0, .int .i64 0]) ?_ 1 _ rfl; (with_reducible repeat (first | refine blk_drewN ?_ _ | refine blk_drew ?_ | refine blk_alloc ?_ _)); refine blk_put (cs := #[.int .i64 0, .int .i64 0, .int .i64 0, .int .i64 0]) ?_ 0 _ rfl; (with_reducible repeat (first | refine blk_drewN ?_ _ | refine blk_drew ?_ | refine blk_alloc ?_ _)); exact BK107.out) Try.underlying23 rfl (by kernel_rfl)) rfl ?_
          exact ⟨by first | rfl | (simp [errW_none, errW_some] <;> rfl) | (simp [*, errW_none, errW_some] <;> rfl), by repeat (first | (with_reducible first | exact HB.out | apply below_alloc | apply pw_below_drewN | apply below_drew1 | refine below_set ?_ GE105.out | refine below_set ?_ GE106.out | refine below_set ?_ GE107.out) | exact HB.out)⟩
        · rw [if_neg c32] at H
          have c32b0 : (a1_0 == 5) = false := beq_eq_false_iff_ne.mpr c32
          have c32b1 : (a1_0 != 5) = true := bne_iff_ne.mpr c32
          by_cases c38 : a1_0 = 1
          · rw [if_pos c38] at H
            have c38b0 : (a1_0 == 1) = true := beq_iff_eq.mpr c38
            have c38b1 : (a1_0 != 1) = false := bne_eq_false_iff_eq.mpr c38
            clear c38
            simp only [Option.some.injEq, Prod.mk.injEq] at H
            obtain ⟨rfl, rfl, rfl, rfl⟩ := H
            have hnb39 := NB106_105.out
            have hnc39 := NB105_106.out
            have hnb40 := NB106_107.out
            have hnc40 := NB107_106.out
            have hcz41_0 : wc.cell? ⟨gb106, 0, none⟩ = some (.int .i64 a1_0) := (blk_cell BK106.out 0).trans rfl
            have hcz41_1 : wc.cell? ⟨gb106, 1, none⟩ = some (.int .i64 a1_1) := (blk_cell BK106.out 1).trans rfl
            have hfz41_0 := blk_frozen BK106.out 0
            have hfz41_1 := blk_frozen BK106.out 1
            have hnb42 := NB107_105.out
            have hnc42 := NB105_107.out
            have hcz43_0 : wc.cell? ⟨gb107, 0, none⟩ = some (.int .i64 0) := (blk_cell BK107.out 0).trans rfl
            have hcz43_1 : wc.cell? ⟨gb107, 1, none⟩ = some (.int .i64 0) := (blk_cell BK107.out 1).trans rfl
            have hcz43_2 : wc.cell? ⟨gb107, 2, none⟩ = some (.int .i64 0) := (blk_cell BK107.out 2).trans rfl
            have hcz43_3 : wc.cell? ⟨gb107, 3, none⟩ = some (.int .i64 0) := (blk_cell BK107.out 3).trans rfl
            have hfz43_0 := blk_frozen BK107.out 0
            have hfz43_1 := blk_frozen BK107.out 1
            have hfz43_2 := blk_frozen BK107.out 2
            have hfz43_3 := blk_frozen BK107.out 3
            go_wp2
            refine bodyPost_ret (results_cell_row rfl _ _ gb107 23 #[.int .i64 1, .int .i64 0, .int .i64 0, .int .i64 0] (0, 0) _ rfl (by (with_reducible repeat (first | refine blk_drewN ?_ _ | refine blk_drew ?_ | refine blk_alloc ?_ _)); refine blk_put (cs := #[.int .i64 1, .int .i64 0, .int .i64 0, .int .i64 0]) ?_ 3 _ rfl; (with_reducible repeat (first | refine blk_drewN ?_ _ | refine blk_drew ?_ | refine blk_alloc ?_ _)); refine blk_put (cs := #[.int .i64 1, .int .i64 0, .int .i64 0, .int .i64 0]) ?_ 2 _ rfl; (with_reducible repeat (first | refine blk_drewN ?_ _ | refine blk_drew ?_ | refine blk_alloc ?_ _)); refine blk_put (cs := #[.int .i64 1, .int .i64 0, .int .i64 0, .int .i64 0]) ?_ 1 _ rfl; (with_reducible repeat (first | refine blk_drewN ?_ _ | refine blk_drew ?_ | refine blk_alloc ?_ _)); refine blk_put (cs := #[.int .i64 0, .int .i64 0, .int .i64 0, .int .i64 0]) ?_ 0 _ rfl; (with_reducible repeat (first | refine blk_drewN ?_ _ | refine blk_drew ?_ | refine blk_alloc ?_ _)); exact BK107.out) Try.underlying23 rfl (by kernel_rfl)) rfl ?_
            exact ⟨by first | rfl | (simp [errW_none, errW_some] <;> rfl) | (simp [*, errW_none, errW_some] <;> rfl), by repeat (first | (with_reducible first | exact HB.out | apply below_alloc | apply pw_below_drewN | apply below_drew1 | refine below_set ?_ GE105.out | refine below_set ?_ GE106.out | refine below_set ?_ GE107.out) | exact HB.out)⟩
          · rw [if_neg c38] at H
            have c38b0 : (a1_0 == 1) = false := beq_eq_false_iff_ne.mpr c38
            have c38b1 : (a1_0 != 1) = true := bne_iff_ne.mpr c38
            replace H := Option.bind_eq_some_iff.mp H
            obtain ⟨t109, A440, H⟩ := H
            replace H : (if t109 = true then (if a1_0 = 4 then (some (3, a0_1, a0_2, a0_3)) else (if (wrap64 (a0_3 + 1)) > 65536 then (some (3, a0_1, a0_2, wrap64 (a0_3 + 1))) else (if a0_0 = 1 then (watch_Next.j1 kj2 (a1_0 == 3) a0_0 a0_1 a0_2 (wrap64 (a0_3 + 1)) a1_0 a1_1) else (watch_Next.j1 kj2 false a0_0 a0_1 a0_2 (wrap64 (a0_3 + 1)) a1_0 a1_1)))) else (some (a0_0, a0_1, a0_2, a0_3))) = some (r1, r2, r3, r4) := H
            have A44 := Aside0.mk A440
            clear A440
            by_cases c45 : t109 = true
            · subst c45
              have H1 : (if a1_0 = 4 then (some (3, a0_1, a0_2, a0_3)) else (if (wrap64 (a0_3 + 1)) > 65536 then (some (3, a0_1, a0_2, wrap64 (a0_3 + 1))) else (if a0_0 = 1 then (watch_Next.j1 kj2 (a1_0 == 3) a0_0 a0_1 a0_2 (wrap64 (a0_3 + 1)) a1_0 a1_1) else (watch_Next.j1 kj2 false a0_0 a0_1 a0_2 (wrap64 (a0_3 + 1)) a1_0 a1_1)))) = some (r1, r2, r3, r4) := by rw [if_pos rfl] at H; exact H
              clear H
              have H := H1
              clear H1
              by_cases c46 : a1_0 = 4
              · rw [if_pos c46] at H
                have c46b0 : (a1_0 == 4) = true := beq_iff_eq.mpr c46
                have c46b1 : (a1_0 != 4) = false := bne_eq_false_iff_eq.mpr c46
                clear c46
                simp only [Option.some.injEq, Prod.mk.injEq] at H
                obtain ⟨rfl, rfl, rfl, rfl⟩ := H
                have hnb47 := NB106_105.out
                have hnc47 := NB105_106.out
                have hnb48 := NB106_107.out
                have hnc48 := NB107_106.out
                have hcz49_0 : wc.cell? ⟨gb106, 0, none⟩ = some (.int .i64 a1_0) := (blk_cell BK106.out 0).trans rfl
                have hcz49_1 : wc.cell? ⟨gb106, 1, none⟩ = some (.int .i64 a1_1) := (blk_cell BK106.out 1).trans rfl
                have hfz49_0 := blk_frozen BK106.out 0
                have hfz49_1 := blk_frozen BK106.out 1
                have hnb50 := NB105_107.out
                have hnc50 := NB107_105.out
                have hcz51_0 : wc.cell? ⟨gb105, 0, none⟩ = some (.int .i64 a0_0) := (blk_cell BK105.out 0).trans rfl
                have hcz51_1 : wc.cell? ⟨gb105, 1, none⟩ = some (.int .i64 a0_1) := (blk_cell BK105.out 1).trans rfl
                have hcz51_2 : wc.cell? ⟨gb105, 2, none⟩ = some (.int .i64 a0_2) := (blk_cell BK105.out 2).trans rfl
                have hcz51_3 : wc.cell? ⟨gb105, 3, none⟩ = some (.int .i64 a0_3) := (blk_cell BK105.out 3).trans rfl
                have hfz51_0 := blk_frozen BK105.out 0
                have hfz51_1 := blk_frozen BK105.out 1
                have hfz51_2 := blk_frozen BK105.out 2
                have hfz51_3 := blk_frozen BK105.out 3
                go_wp2_with (first | ((with_reducible refine gate_callee (f := 13) rfl ?_); refine goesL_ (some 32) rfl rfl Try.func13 (by kernel_rfl) rfl #[.agg #[.int .i64 a0_0, .int .i64 a0_1, .int .i64 a0_2, .int .i64 a0_3]] rfl (by (try simp only [List.map_toArray, List.map_cons, List.map_nil]); first | done | rfl | (simp only [List.length_drop, List.length_take]; rfl)) ?_; (with_reducible refine (watch_Valid.calls a0_0 a0_1 a0_2 a0_3 true _ A44.out).mono ?_); rintro e w52 ⟨rfl, hb⟩; refine ⟨_, rfl, ?_⟩; have n0_ := Aside0.mk (blk_below (g := gb105) (o := .cells #[.int .i64 a0_0, .int .i64 a0_1, .int .i64 a0_2, .int .i64 a0_3] 23 (0, 0)) (by (with_reducible repeat (first | refine blk_drewN ?_ _ | refine blk_drew ?_ | refine blk_alloc ?_ _)); exact BK105.out) hb); have n1_ := Aside0.mk (blk_below (g := gb106) (o := .cells #[.int .i64 a1_0, .int .i64 a1_1] 29 (0, 0)) (by (with_reducible repeat (first | refine blk_drewN ?_ _ | refine blk_drew ?_ | refine blk_alloc ?_ _)); exact BK106.out) hb); have n2_ := Aside0.mk (blk_below (g := gb107) (o := .cells #[.int .i64 0, .int .i64 0, .int .i64 0, .int .i64 0] 23 (0, 0)) (by (with_reducible repeat (first | refine blk_drewN ?_ _ | refine blk_drew ?_ | refine blk_alloc ?_ _)); exact BK107.out) hb); have n3_ := Aside0.mk (below_step (by repeat (first | (with_reducible first | exact HB.out | apply below_alloc | apply pw_below_drewN | apply below_drew1 | refine below_set ?_ GE105.out | refine below_set ?_ GE106.out | refine below_set ?_ GE107.out) | exact HB.out)) hb); clear BK105; clear BK106; clear BK107; clear HB; have BK105 := n0_; have BK106 := n1_; have BK107 := n2_; have HB := n3_; clear n0_ n1_ n2_ n3_; (try clear hb); (try clear hb2); (try clear hk); (try clear hi); have hcz53_0 : w52.cell? ⟨gb106, 0, none⟩ = some (.int .i64 a1_0) := (blk_cell BK106.out 0).trans rfl; have hcz53_1 : w52.cell? ⟨gb106, 1, none⟩ = some (.int .i64 a1_1) := (blk_cell BK106.out 1).trans rfl; have hfz53_0 := blk_frozen BK106.out 0; have hfz53_1 := blk_frozen BK106.out 1; have hcz54_0 : w52.cell? ⟨gb105, 0, none⟩ = some (.int .i64 a0_0) := (blk_cell BK105.out 0).trans rfl; have hcz54_1 : w52.cell? ⟨gb105, 1, none⟩ = some (.int .i64 a0_1) := (blk_cell BK105.out 1).trans rfl; have hcz54_2 : w52.cell? ⟨gb105, 2, none⟩ = some (.int .i64 a0_2) := (blk_cell BK105.out 2).trans rfl; have hcz54_3 : w52.cell? ⟨gb105, 3, none⟩ = some (.int .i64 a0_3) := (blk_cell BK105.out 3).trans rfl; have hfz54_0 := blk_frozen BK105.out 0; have hfz54_1 := blk_frozen BK105.out 1; have hfz54_2 := blk_frozen BK105.out 2; have hfz54_3 := blk_frozen BK105.out 3; have hcz55_0 : w52.cell? ⟨gb107, 0, none⟩ = some (.int .i64 0) := (blk_cell BK107.out 0).trans rfl; have hcz55_1 : w52.cell? ⟨gb107, 1, none⟩ = some (.int .i64 0) := (blk_cell BK107.out 1).trans rfl; have hcz55_2 : w52.cell? ⟨gb107, 2, none⟩ = some (.int .i64 0) := (blk_cell BK107.out 2).trans rfl; have hcz55_3 : w52.cell? ⟨gb107, 3, none⟩ = some (.int .i64 0) := (blk_cell BK107.out 3).trans rfl; have hfz55_0 := blk_frozen BK107.out 0; have hfz55_1 := blk_frozen BK107.out 1; have hfz55_2 := blk_frozen BK107.out 2; have hfz55_3 := blk_frozen BK107.out 3))
                refine bodyPost_ret (results_cell_row rfl _ _ gb107 23 #[.int .i64 3, .int .i64 a0_1, .int .i64 a0_2, .int .i64 a0_3] (0, 0) _ rfl (by (with_reducible repeat (first | refine blk_drewN ?_ _ | refine blk_drew ?_ | refine blk_alloc ?_ _)); refine blk_put (cs := #[.int .i64 3, .int .i64 a0_1, .int .i64 a0_2, .int .i64 0]) ?_ 3 _ rfl; (with_reducible repeat (first | refine blk_drewN ?_ _ | refine blk_drew ?_ | refine blk_alloc ?_ _)); refine blk_put (cs := #[.int .i64 3, .int .i64 a0_1, .int .i64 0, .int .i64 0]) ?_ 2 _ rfl; (with_reducible repeat (first | refine blk_drewN ?_ _ | refine blk_drew ?_ | refine blk_alloc ?_ _)); refine blk_put (cs := #[.int .i64 3, .int .i64 0, .int .i64 0, .int .i64 0]) ?_ 1 _ rfl; (with_reducible repeat (first | refine blk_drewN ?_ _ | refine blk_drew ?_ | refine blk_alloc ?_ _)); refine blk_put (cs := #[.int .i64 0, .int .i64 0, .int .i64 0, .int .i64 0]) ?_ 0 _ rfl; (with_reducible repeat (first | refine blk_drewN ?_ _ | refine blk_drew ?_ | refine blk_alloc ?_ _)); refine blk_far ?_ NB107_105.out _; (with_reducible repeat (first | refine blk_drewN ?_ _ | refine blk_drew ?_ | refine blk_alloc ?_ _)); exact BK107.out) Try.underlying23 rfl (by kernel_rfl)) rfl ?_
                exact ⟨by first | rfl | (simp [errW_none, errW_some] <;> rfl) | (simp [*, errW_none, errW_some] <;> rfl), by repeat (first | (with_reducible first | exact HB.out | apply below_alloc | apply pw_below_drewN | apply below_drew1 | refine below_set ?_ GE105.out | refine below_set ?_ GE106.out | refine below_set ?_ GE107.out) | exact HB.out)⟩
              · rw [if_neg c46] at H
                have c46b0 : (a1_0 == 4) = false := beq_eq_false_iff_ne.mpr c46
                have c46b1 : (a1_0 != 4) = true := bne_iff_ne.mpr c46
                by_cases c56 : (wrap64 (a0_3 + 1)) > 65536
                · rw [if_pos c56] at H
                  have c56b0 : decide (65536 < (wrap64 (a0_3 + 1))) = true := decide_eq_true c56
                  clear c56
                  simp only [Option.some.injEq, Prod.mk.injEq] at H
                  obtain ⟨rfl, rfl, rfl, rfl⟩ := H
                  have hnb57 := NB106_105.out
                  have hnc57 := NB105_106.out
                  have hnb58 := NB106_107.out
                  have hnc58 := NB107_106.out
                  have hcz59_0 : wc.cell? ⟨gb106, 0, none⟩ = some (.int .i64 a1_0) := (blk_cell BK106.out 0).trans rfl
                  have hcz59_1 : wc.cell? ⟨gb106, 1, none⟩ = some (.int .i64 a1_1) := (blk_cell BK106.out 1).trans rfl
                  have hfz59_0 := blk_frozen BK106.out 0
                  have hfz59_1 := blk_frozen BK106.out 1
                  have hnb60 := NB105_107.out
                  have hnc60 := NB107_105.out
                  have hcz61_0 : wc.cell? ⟨gb105, 0, none⟩ = some (.int .i64 a0_0) := (blk_cell BK105.out 0).trans rfl
                  have hcz61_1 : wc.cell? ⟨gb105, 1, none⟩ = some (.int .i64 a0_1) := (blk_cell BK105.out 1).trans rfl
                  have hcz61_2 : wc.cell? ⟨gb105, 2, none⟩ = some (.int .i64 a0_2) := (blk_cell BK105.out 2).trans rfl
                  have hcz61_3 : wc.cell? ⟨gb105, 3, none⟩ = some (.int .i64 a0_3) := (blk_cell BK105.out 3).trans rfl
                  have hfz61_0 := blk_frozen BK105.out 0
                  have hfz61_1 := blk_frozen BK105.out 1
                  have hfz61_2 := blk_frozen BK105.out 2
                  have hfz61_3 := blk_frozen BK105.out 3
                  go_wp2_with (first | ((with_reducible refine gate_callee (f := 13) rfl ?_); refine goesL_ (some 32) rfl rfl Try.func13 (by kernel_rfl) rfl #[.agg #[.int .i64 a0_0, .int .i64 a0_1, .int .i64 a0_2, .int .i64 a0_3]] rfl (by (try simp only [List.map_toArray, List.map_cons, List.map_nil]); first | done | rfl | (simp only [List.length_drop, List.length_take]; rfl)) ?_; (with_reducible refine (watch_Valid.calls a0_0 a0_1 a0_2 a0_3 true _ A44.out).mono ?_); rintro e w62 ⟨rfl, hb⟩; refine ⟨_, rfl, ?_⟩; have n0_ := Aside0.mk (blk_below (g := gb105) (o := .cells #[.int .i64 a0_0, .int .i64 a0_1, .int .i64 a0_2, .int .i64 a0_3] 23 (0, 0)) (by (with_reducible repeat (first | refine blk_drewN ?_ _ | refine blk_drew ?_ | refine blk_alloc ?_ _)); exact BK105.out) hb); have n1_ := Aside0.mk (blk_below (g := gb106) (o := .cells #[.int .i64 a1_0, .int .i64 a1_1] 29 (0, 0)) (by (with_reducible repeat (first | refine blk_drewN ?_ _ | refine blk_drew ?_ | refine blk_alloc ?_ _)); exact BK106.out) hb); have n2_ := Aside0.mk (blk_below (g := gb107) (o := .cells #[.int .i64 0, .int .i64 0, .int .i64 0, .int .i64 0] 23 (0, 0)) (by (with_reducible repeat (first | refine blk_drewN ?_ _ | refine blk_drew ?_ | refine blk_alloc ?_ _)); exact BK107.out) hb); have n3_ := Aside0.mk (below_step (by repeat (first | (with_reducible first | exact HB.out | apply below_alloc | apply pw_below_drewN | apply below_drew1 | refine below_set ?_ GE105.out | refine below_set ?_ GE106.out | refine below_set ?_ GE107.out) | exact HB.out)) hb); clear BK105; clear BK106; clear BK107; clear HB; have BK105 := n0_; have BK106 := n1_; have BK107 := n2_; have HB := n3_; clear n0_ n1_ n2_ n3_; (try clear hb); (try clear hb2); (try clear hk); (try clear hi); have hcz63_0 : w62.cell? ⟨gb106, 0, none⟩ = some (.int .i64 a1_0) := (blk_cell BK106.out 0).trans rfl; have hcz63_1 : w62.cell? ⟨gb106, 1, none⟩ = some (.int .i64 a1_1) := (blk_cell BK106.out 1).trans rfl; have hfz63_0 := blk_frozen BK106.out 0; have hfz63_1 := blk_frozen BK106.out 1; have hcz64_0 : w62.cell? ⟨gb105, 0, none⟩ = some (.int .i64 a0_0) := (blk_cell BK105.out 0).trans rfl; have hcz64_1 : w62.cell? ⟨gb105, 1, none⟩ = some (.int .i64 a0_1) := (blk_cell BK105.out 1).trans rfl; have hcz64_2 : w62.cell? ⟨gb105, 2, none⟩ = some (.int .i64 a0_2) := (blk_cell BK105.out 2).trans rfl; have hcz64_3 : w62.cell? ⟨gb105, 3, none⟩ = some (.int .i64 a0_3) := (blk_cell BK105.out 3).trans rfl; have hfz64_0 := blk_frozen BK105.out 0; have hfz64_1 := blk_frozen BK105.out 1; have hfz64_2 := blk_frozen BK105.out 2; have hfz64_3 := blk_frozen BK105.out 3; have hcz65_0 : w62.cell? ⟨gb107, 0, none⟩ = some (.int .i64 0) := (blk_cell BK107.out 0).trans rfl; have hcz65_1 : w62.cell? ⟨gb107, 1, none⟩ = some (.int .i64 0) := (blk_cell BK107.out 1).trans rfl; have hcz65_2 : w62.cell? ⟨gb107, 2, none⟩ = some (.int .i64 0) := (blk_cell BK107.out 2).trans rfl; have hcz65_3 : w62.cell? ⟨gb107, 3, none⟩ = some (.int .i64 0) := (blk_cell BK107.out 3).trans rfl; have hfz65_0 := blk_frozen BK107.out 0; have hfz65_1 := blk_frozen BK107.out 1; have hfz65_2 := blk_frozen BK107.out 2; have hfz65_3 := blk_frozen BK107.out 3))
                  refine bodyPost_ret (results_cell_row rfl _ _ gb107 23 #[.int .i64 3, .int .i64 a0_1, .int .i64 a0_2, .int .i64 (wrap64 (a0_3 + 1))] (0, 0) _ rfl (by (with_reducible repeat (first | refine blk_drewN ?_ _ | refine blk_drew ?_ | refine blk_alloc ?_ _)); refine blk_put (cs := #[.int .i64 3, .int .i64 a0_1, .int .i64 a0_2, .int .i64 0]) ?_ 3 _ rfl; (with_reducible repeat (first | refine blk_drewN ?_ _ | refine blk_drew ?_ | refine blk_alloc ?_ _)); refine blk_put (cs := #[.int .i64 3, .int .i64 a0_1, .int .i64 0, .int .i64 0]) ?_ 2 _ rfl; (with_reducible repeat (first | refine blk_drewN ?_ _ | refine blk_drew ?_ | refine blk_alloc ?_ _)); refine blk_put (cs := #[.int .i64 3, .int .i64 0, .int .i64 0, .int .i64 0]) ?_ 1 _ rfl; (with_reducible repeat (first | refine blk_drewN ?_ _ | refine blk_drew ?_ | refine blk_alloc ?_ _)); refine blk_put (cs := #[.int .i64 0, .int .i64 0, .int .i64 0, .int .i64 0]) ?_ 0 _ rfl; (with_reducible repeat (first | refine blk_drewN ?_ _ | refine blk_drew ?_ | refine blk_alloc ?_ _)); refine blk_far ?_ NB107_105.out _; (with_reducible repeat (first | refine blk_drewN ?_ _ | refine blk_drew ?_ | refine blk_alloc ?_ _)); refine blk_far ?_ NB107_105.out _; (with_reducible repeat (first | refine blk_drewN ?_ _ | refine blk_drew ?_ | refine blk_alloc ?_ _)); exact BK107.out) Try.underlying23 rfl (by kernel_rfl)) rfl ?_
                  exact ⟨by first | rfl | (simp [errW_none, errW_some] <;> rfl) | (simp [*, errW_none, errW_some] <;> rfl), by repeat (first | (with_reducible first | exact HB.out | apply below_alloc | apply pw_below_drewN | apply below_drew1 | refine below_set ?_ GE105.out | refine below_set ?_ GE106.out | refine below_set ?_ GE107.out) | exact HB.out)⟩
                · rw [if_neg c56] at H
                  have c56b0 : decide (65536 < (wrap64 (a0_3 + 1))) = false := decide_eq_false c56
                  clear c56
                  have HC66 := Aside0.mk H
                  clear H
                  have hnb67 := NB106_105.out
                  have hnc67 := NB105_106.out
                  have hnb68 := NB106_107.out
                  have hnc68 := NB107_106.out
                  have hcz69_0 : wc.cell? ⟨gb106, 0, none⟩ = some (.int .i64 a1_0) := (blk_cell BK106.out 0).trans rfl
                  have hcz69_1 : wc.cell? ⟨gb106, 1, none⟩ = some (.int .i64 a1_1) := (blk_cell BK106.out 1).trans rfl
                  have hfz69_0 := blk_frozen BK106.out 0
                  have hfz69_1 := blk_frozen BK106.out 1
                  have hnb70 := NB105_107.out
                  have hnc70 := NB107_105.out
                  have hcz71_0 : wc.cell? ⟨gb105, 0, none⟩ = some (.int .i64 a0_0) := (blk_cell BK105.out 0).trans rfl
                  have hcz71_1 : wc.cell? ⟨gb105, 1, none⟩ = some (.int .i64 a0_1) := (blk_cell BK105.out 1).trans rfl
                  have hcz71_2 : wc.cell? ⟨gb105, 2, none⟩ = some (.int .i64 a0_2) := (blk_cell BK105.out 2).trans rfl
                  have hcz71_3 : wc.cell? ⟨gb105, 3, none⟩ = some (.int .i64 a0_3) := (blk_cell BK105.out 3).trans rfl
                  have hfz71_0 := blk_frozen BK105.out 0
                  have hfz71_1 := blk_frozen BK105.out 1
                  have hfz71_2 := blk_frozen BK105.out 2
                  have hfz71_3 := blk_frozen BK105.out 3
                  go_upto_region 15 with (first | ((with_reducible refine gate_callee (f := 13) rfl ?_); refine goesL_ (some 32) rfl rfl Try.func13 (by kernel_rfl) rfl #[.agg #[.int .i64 a0_0, .int .i64 a0_1, .int .i64 a0_2, .int .i64 a0_3]] rfl (by (try simp only [List.map_toArray, List.map_cons, List.map_nil]); first | done | rfl | (simp only [List.length_drop, List.length_take]; rfl)) ?_; (with_reducible refine (watch_Valid.calls a0_0 a0_1 a0_2 a0_3 true _ A44.out).mono ?_); rintro e w72 ⟨rfl, hb⟩; refine ⟨_, rfl, ?_⟩; have n0_ := Aside0.mk (blk_below (g := gb105) (o := .cells #[.int .i64 a0_0, .int .i64 a0_1, .int .i64 a0_2, .int .i64 a0_3] 23 (0, 0)) (by (with_reducible repeat (first | refine blk_drewN ?_ _ | refine blk_drew ?_ | refine blk_alloc ?_ _)); exact BK105.out) hb); have n1_ := Aside0.mk (blk_below (g := gb106) (o := .cells #[.int .i64 a1_0, .int .i64 a1_1] 29 (0, 0)) (by (with_reducible repeat (first | refine blk_drewN ?_ _ | refine blk_drew ?_ | refine blk_alloc ?_ _)); exact BK106.out) hb); have n2_ := Aside0.mk (blk_below (g := gb107) (o := .cells #[.int .i64 0, .int .i64 0, .int .i64 0, .int .i64 0] 23 (0, 0)) (by (with_reducible repeat (first | refine blk_drewN ?_ _ | refine blk_drew ?_ | refine blk_alloc ?_ _)); exact BK107.out) hb); have n3_ := Aside0.mk (below_step (by repeat (first | (with_reducible first | exact HB.out | apply below_alloc | apply pw_below_drewN | apply below_drew1 | refine below_set ?_ GE105.out | refine below_set ?_ GE106.out | refine below_set ?_ GE107.out) | exact HB.out)) hb); clear BK105; clear BK106; clear BK107; clear HB; have BK105 := n0_; have BK106 := n1_; have BK107 := n2_; have HB := n3_; clear n0_ n1_ n2_ n3_; (try clear hb); (try clear hb2); (try clear hk); (try clear hi); have hcz73_0 : w72.cell? ⟨gb106, 0, none⟩ = some (.int .i64 a1_0) := (blk_cell BK106.out 0).trans rfl; have hcz73_1 : w72.cell? ⟨gb106, 1, none⟩ = some (.int .i64 a1_1) := (blk_cell BK106.out 1).trans rfl; have hfz73_0 := blk_frozen BK106.out 0; have hfz73_1 := blk_frozen BK106.out 1; have hcz74_0 : w72.cell? ⟨gb105, 0, none⟩ = some (.int .i64 a0_0) := (blk_cell BK105.out 0).trans rfl; have hcz74_1 : w72.cell? ⟨gb105, 1, none⟩ = some (.int .i64 a0_1) := (blk_cell BK105.out 1).trans rfl; have hcz74_2 : w72.cell? ⟨gb105, 2, none⟩ = some (.int .i64 a0_2) := (blk_cell BK105.out 2).trans rfl; have hcz74_3 : w72.cell? ⟨gb105, 3, none⟩ = some (.int .i64 a0_3) := (blk_cell BK105.out 3).trans rfl; have hfz74_0 := blk_frozen BK105.out 0; have hfz74_1 := blk_frozen BK105.out 1; have hfz74_2 := blk_frozen BK105.out 2; have hfz74_3 := blk_frozen BK105.out 3))
                  (try simp only [Act.put, List.setIfInBounds_toArray, List.set_cons_zero, List.set_cons_succ])
                  go_cut [50] (fun v50 wc => ∃ (kq : Nat) (x50_65 : Bool), v50 = .bool x50_65 ∧ Aside0 (watch_Next.j1 kq x50_65 a0_0 a0_1 a0_2 (wrap64 (a0_3 + 1)) a1_0 a1_1 = some (r1, r2, r3, r4)) ∧ Aside0 (kq ≤ kj2) ∧ Aside0 (wc.heap[gb105]? = some (.cells #[.int .i64 a0_0, .int .i64 a0_1, .int .i64 a0_2, .int .i64 (wrap64 (a0_3 + 1))] 23 (0, 0))) ∧ Aside0 (wc.heap[gb106]? = some (.cells #[.int .i64 a1_0, .int .i64 a1_1] 29 (0, 0))) ∧ Aside0 (wc.heap[gb107]? = some (.cells #[.int .i64 0, .int .i64 0, .int .i64 0, .int .i64 0] 23 (0, 0))) ∧ Aside0 (Below w.heap.size w wc))
                  case first =>
                    have H := HC66.out
                    clear HC66
                    by_cases c75 : a0_0 = 1
                    · rw [if_pos c75] at H
                      have c75b0 : (a0_0 == 1) = true := beq_iff_eq.mpr c75
                      have c75b1 : (a0_0 != 1) = false := bne_eq_false_iff_eq.mpr c75
                      clear c75
                      (first | rw [c75b0] | (simp only [i64_w, i32_w]; rw [c75b0]) | skip)
                      have H' := Aside0.mk H
                      clear H
                      have hnb76 := NB105_106.out
                      have hnc76 := NB106_105.out
                      have hnb77 := NB105_107.out
                      have hnc77 := NB107_105.out
                      have hcz78_0 : w72.cell? ⟨gb105, 0, none⟩ = some (.int .i64 a0_0) := (blk_cell BK105.out 0).trans rfl
                      have hcz78_1 : w72.cell? ⟨gb105, 1, none⟩ = some (.int .i64 a0_1) := (blk_cell BK105.out 1).trans rfl
                      have hcz78_2 : w72.cell? ⟨gb105, 2, none⟩ = some (.int .i64 a0_2) := (blk_cell BK105.out 2).trans rfl
                      have hcz78_3 : w72.cell? ⟨gb105, 3, none⟩ = some (.int .i64 a0_3) := (blk_cell BK105.out 3).trans rfl
                      have hfz78_0 := blk_frozen BK105.out 0
                      have hfz78_1 := blk_frozen BK105.out 1
                      have hfz78_2 := blk_frozen BK105.out 2
                      have hfz78_3 := blk_frozen BK105.out 3
                      have hnb79 := NB106_107.out
                      have hnc79 := NB107_106.out
                      have hcz80_0 : w72.cell? ⟨gb106, 0, none⟩ = some (.int .i64 a1_0) := (blk_cell BK106.out 0).trans rfl
                      have hcz80_1 : w72.cell? ⟨gb106, 1, none⟩ = some (.int .i64 a1_1) := (blk_cell BK106.out 1).trans rfl
                      have hfz80_0 := blk_frozen BK106.out 0
                      have hfz80_1 := blk_frozen BK106.out 1
                      go_wp2
                      go_meet
                      case rel => exact ⟨_, ((a1_0 == 3)), (by first | rfl | (simp; done) | (simp [*]; done)), H', ⟨by have := HJ2.out; first | omega | exact Nat.le_refl _⟩, ⟨by (with_reducible repeat (first | refine blk_drewN ?_ _ | refine blk_drew ?_ | refine blk_alloc ?_ _)); refine blk_put (cs := #[.int .i64 a0_0, .int .i64 a0_1, .int .i64 a0_2, .int .i64 a0_3]) ?_ 3 _ rfl; (with_reducible repeat (first | refine blk_drewN ?_ _ | refine blk_drew ?_ | refine blk_alloc ?_ _)); exact BK105.out⟩, ⟨by (with_reducible repeat (first | refine blk_drewN ?_ _ | refine blk_drew ?_ | refine blk_alloc ?_ _)); refine blk_far ?_ NB106_105.out _; (with_reducible repeat (first | refine blk_drewN ?_ _ | refine blk_drew ?_ | refine blk_alloc ?_ _)); exact BK106.out⟩, ⟨by (with_reducible repeat (first | refine blk_drewN ?_ _ | refine blk_drew ?_ | refine blk_alloc ?_ _)); refine blk_far ?_ NB107_105.out _; (with_reducible repeat (first | refine blk_drewN ?_ _ | refine blk_drew ?_ | refine blk_alloc ?_ _)); exact BK107.out⟩, ⟨by repeat (first | (with_reducible first | exact HB.out | apply below_alloc | apply pw_below_drewN | apply below_drew1 | refine below_set ?_ GE105.out | refine below_set ?_ GE106.out | refine below_set ?_ GE107.out) | exact HB.out)⟩⟩
                    · rw [if_neg c75] at H
                      have c75b0 : (a0_0 == 1) = false := beq_eq_false_iff_ne.mpr c75
                      have c75b1 : (a0_0 != 1) = true := bne_iff_ne.mpr c75
                      (first | rw [c75b0] | (simp only [i64_w, i32_w]; rw [c75b0]) | skip)
                      have H' := Aside0.mk H
                      clear H
                      have hnb81 := NB105_106.out
                      have hnc81 := NB106_105.out
                      have hnb82 := NB105_107.out
                      have hnc82 := NB107_105.out
                      have hcz83_0 : w72.cell? ⟨gb105, 0, none⟩ = some (.int .i64 a0_0) := (blk_cell BK105.out 0).trans rfl
                      have hcz83_1 : w72.cell? ⟨gb105, 1, none⟩ = some (.int .i64 a0_1) := (blk_cell BK105.out 1).trans rfl
                      have hcz83_2 : w72.cell? ⟨gb105, 2, none⟩ = some (.int .i64 a0_2) := (blk_cell BK105.out 2).trans rfl
                      have hcz83_3 : w72.cell? ⟨gb105, 3, none⟩ = some (.int .i64 a0_3) := (blk_cell BK105.out 3).trans rfl
                      have hfz83_0 := blk_frozen BK105.out 0
                      have hfz83_1 := blk_frozen BK105.out 1
                      have hfz83_2 := blk_frozen BK105.out 2
                      have hfz83_3 := blk_frozen BK105.out 3
                      go_wp2
                      go_meet
                      case rel => exact ⟨_, (false), (by first | rfl | (simp; done) | (simp [*]; done)), H', ⟨by have := HJ2.out; first | omega | exact Nat.le_refl _⟩, ⟨by (with_reducible repeat (first | refine blk_drewN ?_ _ | refine blk_drew ?_ | refine blk_alloc ?_ _)); refine blk_put (cs := #[.int .i64 a0_0, .int .i64 a0_1, .int .i64 a0_2, .int .i64 a0_3]) ?_ 3 _ rfl; (with_reducible repeat (first | refine blk_drewN ?_ _ | refine blk_drew ?_ | refine blk_alloc ?_ _)); exact BK105.out⟩, ⟨by (with_reducible repeat (first | refine blk_drewN ?_ _ | refine blk_drew ?_ | refine blk_alloc ?_ _)); refine blk_far ?_ NB106_105.out _; (with_reducible repeat (first | refine blk_drewN ?_ _ | refine blk_drew ?_ | refine blk_alloc ?_ _)); exact BK106.out⟩, ⟨by (with_reducible repeat (first | refine blk_drewN ?_ _ | refine blk_drew ?_ | refine blk_alloc ?_ _)); refine blk_far ?_ NB107_105.out _; (with_reducible repeat (first | refine blk_drewN ?_ _ | refine blk_drew ?_ | refine blk_alloc ?_ _)); exact BK107.out⟩, ⟨by repeat (first | (with_reducible first | exact HB.out | apply below_alloc | apply pw_below_drewN | apply below_drew1 | refine below_set ?_ GE105.out | refine below_set ?_ GE106.out | refine below_set ?_ GE107.out) | exact HB.out)⟩⟩
                  case rest =>
                    clear HC66
                    try clear c1
                    try clear c2
                    try clear p2
                    try clear c3
                    try clear c4
                    try clear c5
                    try clear c6
                    try clear p6
                    try clear c7
                    try clear c8
                    try clear c9
                    try clear c9b0
                    try clear c10
                    try clear c11
                    try clear c12
                    try clear c13
                    try clear c14
                    try clear c16
                    try clear c17
                    try clear c20
                    try clear c22
                    try clear c23
                    try clear c26
                    try clear c27
                    try clear c28
                    try clear c30
                    try clear c32
                    try clear c32b0
                    try clear c32b1
                    try clear c33
                    try clear c34
                    try clear c36
                    try clear c38
                    try clear c38b0
                    try clear c38b1
                    try clear c39
                    try clear c40
                    try clear c42
                    try clear c45
                    try clear c46
                    try clear c46b0
                    try clear c46b1
                    try clear c47
                    try clear c48
                    try clear c50
                    try clear c56
                    try clear c56b0
                    try clear c57
                    try clear c58
                    try clear c60
                    try clear p64
                    try clear c67
                    try clear c68
                    try clear c70
                    try clear c75
                    try clear c75b0
                    try clear c75b1
                    try clear c76
                    try clear c77
                    try clear c79
                    try clear c81
                    try clear c82
                    try clear hcz12_0
                    try clear hcz12_1
                    try clear hcz12_2
                    try clear hcz12_3
                    try clear hcz15_0
                    try clear hcz15_1
                    try clear hcz18_0
                    try clear hcz18_1
                    try clear hcz18_2
                    try clear hcz18_3
                    try clear hcz21_0
                    try clear hcz21_1
                    try clear hcz24_0
                    try clear hcz24_1
                    try clear hcz24_2
                    try clear hcz24_3
                    try clear hcz29_0
                    try clear hcz29_1
                    try clear hcz29_2
                    try clear hcz29_3
                    try clear hcz31_0
                    try clear hcz31_1
                    try clear hcz31_2
                    try clear hcz31_3
                    try clear hcz35_0
                    try clear hcz35_1
                    try clear hcz37_0
                    try clear hcz37_1
                    try clear hcz37_2
                    try clear hcz37_3
                    try clear hcz41_0
                    try clear hcz41_1
                    try clear hcz43_0
                    try clear hcz43_1
                    try clear hcz43_2
                    try clear hcz43_3
                    try clear hcz49_0
                    try clear hcz49_1
                    try clear hcz51_0
                    try clear hcz51_1
                    try clear hcz51_2
                    try clear hcz51_3
                    try clear hcz53_0
                    try clear hcz53_1
                    try clear hcz54_0
                    try clear hcz54_1
                    try clear hcz54_2
                    try clear hcz54_3
                    try clear hcz55_0
                    try clear hcz55_1
                    try clear hcz55_2
                    try clear hcz55_3
                    try clear hcz59_0
                    try clear hcz59_1
                    try clear hcz61_0
                    try clear hcz61_1
                    try clear hcz61_2
                    try clear hcz61_3
                    try clear hcz63_0
                    try clear hcz63_1
                    try clear hcz64_0
                    try clear hcz64_1
                    try clear hcz64_2
                    try clear hcz64_3
                    try clear hcz65_0
                    try clear hcz65_1
                    try clear hcz65_2
                    try clear hcz65_3
                    try clear hcz69_0
                    try clear hcz69_1
                    try clear hcz71_0
                    try clear hcz71_1
                    try clear hcz71_2
                    try clear hcz71_3
                    try clear hcz73_0
                    try clear hcz73_1
                    try clear hcz74_0
                    try clear hcz74_1
                    try clear hcz74_2
                    try clear hcz74_3
                    try clear hcz78_0
                    try clear hcz78_1
                    try clear hcz78_2
                    try clear hcz78_3
                    try clear hcz80_0
                    try clear hcz80_1
                    try clear hcz83_0
                    try clear hcz83_1
                    try clear hcz83_2
                    try clear hcz83_3
                    try clear hfz12_0
                    try clear hfz12_1
                    try clear hfz12_2
                    try clear hfz12_3
                    try clear hfz15_0
                    try clear hfz15_1
                    try clear hfz18_0
                    try clear hfz18_1
                    try clear hfz18_2
                    try clear hfz18_3
                    try clear hfz21_0
                    try clear hfz21_1
                    try clear hfz24_0
                    try clear hfz24_1
                    try clear hfz24_2
                    try clear hfz24_3
                    try clear hfz29_0
                    try clear hfz29_1
                    try clear hfz29_2
                    try clear hfz29_3
                    try clear hfz31_0
                    try clear hfz31_1
                    try clear hfz31_2
                    try clear hfz31_3
                    try clear hfz35_0
                    try clear hfz35_1
                    try clear hfz37_0
                    try clear hfz37_1
                    try clear hfz37_2
                    try clear hfz37_3
                    try clear hfz41_0
                    try clear hfz41_1
                    try clear hfz43_0
                    try clear hfz43_1
                    try clear hfz43_2
                    try clear hfz43_3
                    try clear hfz49_0
                    try clear hfz49_1
                    try clear hfz51_0
                    try clear hfz51_1
                    try clear hfz51_2
                    try clear hfz51_3
                    try clear hfz53_0
                    try clear hfz53_1
                    try clear hfz54_0
                    try clear hfz54_1
                    try clear hfz54_2
                    try clear hfz54_3
                    try clear hfz55_0
                    try clear hfz55_1
                    try clear hfz55_2
                    try clear hfz55_3
                    try clear hfz59_0
                    try clear hfz59_1
                    try clear hfz61_0
                    try clear hfz61_1
                    try clear hfz61_2
                    try clear hfz61_3
                    try clear hfz63_0
                    try clear hfz63_1
                    try clear hfz64_0
                    try clear hfz64_1
                    try clear hfz64_2
                    try clear hfz64_3
                    try clear hfz65_0
                    try clear hfz65_1
                    try clear hfz65_2
                    try clear hfz65_3
                    try clear hfz69_0
                    try clear hfz69_1
                    try clear hfz71_0
                    try clear hfz71_1
                    try clear hfz71_2
                    try clear hfz71_3
                    try clear hfz73_0
                    try clear hfz73_1
                    try clear hfz74_0
                    try clear hfz74_1
                    try clear hfz74_2
                    try clear hfz74_3
                    try clear hfz78_0
                    try clear hfz78_1
                    try clear hfz78_2
                    try clear hfz78_3
                    try clear hfz80_0
                    try clear hfz80_1
                    try clear hfz83_0
                    try clear hfz83_1
                    try clear hfz83_2
                    try clear hfz83_3
                    try clear p2
                    obtain ⟨kq, x50_65, rfl, HA, HJ65, BK105, BK106, BK107, HB⟩ := hcut
                    cases kq with
                    | zero => exact absurd HA.out (by simp [watch_Next.j1])
                    | succ kj65 =>
                      have H := HA.out
                      clear HA
                      simp only [watch_Next.j1] at H
                      by_cases c84 : x50_65 = true
                      · subst c84
                        have H1 : ((watch_tripped.f a0_0 a0_1 a0_2 (wrap64 (a0_3 + 1)) a1_1).bind fun bt110 => (some (bt110.1, bt110.2.1, bt110.2.2.1, bt110.2.2.2))) = some (r1, r2, r3, r4) := by rw [if_pos rfl] at H; exact H
                        clear H
                        have H := H1
                        clear H1
                        replace H := Option.bind_eq_some_iff.mp H
                        obtain ⟨⟨t110, t111, t112, t113⟩, A850, H⟩ := H
                        replace H : (some (t110, t111, t112, t113)) = some (r1, r2, r3, r4) := H
                        have A85 := Aside0.mk A850
                        clear A850
                        simp only [Option.some.injEq, Prod.mk.injEq] at H
                        obtain ⟨rfl, rfl, rfl, rfl⟩ := H
                        have hnb86 := NB105_106.out
                        have hnc86 := NB106_105.out
                        have hnb87 := NB105_107.out
                        have hnc87 := NB107_105.out
                        have hcz88_0 : wc.cell? ⟨gb105, 0, none⟩ = some (.int .i64 a0_0) := (blk_cell BK105.out 0).trans rfl
                        have hcz88_1 : wc.cell? ⟨gb105, 1, none⟩ = some (.int .i64 a0_1) := (blk_cell BK105.out 1).trans rfl
                        have hcz88_2 : wc.cell? ⟨gb105, 2, none⟩ = some (.int .i64 a0_2) := (blk_cell BK105.out 2).trans rfl
                        have hcz88_3 : wc.cell? ⟨gb105, 3, none⟩ = some (.int .i64 (wrap64 (a0_3 + 1))) := (blk_cell BK105.out 3).trans rfl
                        have hfz88_0 := blk_frozen BK105.out 0
                        have hfz88_1 := blk_frozen BK105.out 1
                        have hfz88_2 := blk_frozen BK105.out 2
                        have hfz88_3 := blk_frozen BK105.out 3
                        have hnb89 := NB106_107.out
                        have hnc89 := NB107_106.out
                        have hcz90_0 : wc.cell? ⟨gb106, 0, none⟩ = some (.int .i64 a1_0) := (blk_cell BK106.out 0).trans rfl
                        have hcz90_1 : wc.cell? ⟨gb106, 1, none⟩ = some (.int .i64 a1_1) := (blk_cell BK106.out 1).trans rfl
                        have hfz90_0 := blk_frozen BK106.out 0
                        have hfz90_1 := blk_frozen BK106.out 1
                        go_wp2_with (first | ((with_reducible refine gate_callee (f := 14) rfl ?_); refine goesL_ (some 62) rfl rfl Try.func14 (by kernel_rfl) rfl #[.agg #[.int .i64 a0_0, .int .i64 a0_1, .int .i64 a0_2, .int .i64 (wrap64 (a0_3 + 1))], .int .i64 a1_1] rfl (by (try simp only [List.map_toArray, List.map_cons, List.map_nil]); first | done | rfl | (simp only [List.length_drop, List.length_take]; rfl)) ?_; (with_reducible refine (watch_tripped.calls a0_0 a0_1 a0_2 (wrap64 (a0_3 + 1)) a1_1 t110 t111 t112 t113 _ A85.out).mono ?_); rintro e w91 ⟨rfl, hb⟩; refine ⟨_, rfl, ?_⟩; have n0_ := Aside0.mk (blk_below (g := gb105) (o := .cells #[.int .i64 a0_0, .int .i64 a0_1, .int .i64 a0_2, .int .i64 (wrap64 (a0_3 + 1))] 23 (0, 0)) (by (with_reducible repeat (first | refine blk_drewN ?_ _ | refine blk_drew ?_ | refine blk_alloc ?_ _)); exact BK105.out) hb); have n1_ := Aside0.mk (blk_below (g := gb106) (o := .cells #[.int .i64 a1_0, .int .i64 a1_1] 29 (0, 0)) (by (with_reducible repeat (first | refine blk_drewN ?_ _ | refine blk_drew ?_ | refine blk_alloc ?_ _)); exact BK106.out) hb); have n2_ := Aside0.mk (blk_below (g := gb107) (o := .cells #[.int .i64 0, .int .i64 0, .int .i64 0, .int .i64 0] 23 (0, 0)) (by (with_reducible repeat (first | refine blk_drewN ?_ _ | refine blk_drew ?_ | refine blk_alloc ?_ _)); exact BK107.out) hb); have n3_ := Aside0.mk (below_step (by repeat (first | (with_reducible first | exact HB.out | apply below_alloc | apply pw_below_drewN | apply below_drew1 | refine below_set ?_ GE105.out | refine below_set ?_ GE106.out | refine below_set ?_ GE107.out) | exact HB.out)) hb); clear BK105; clear BK106; clear BK107; clear HB; have BK105 := n0_; have BK106 := n1_; have BK107 := n2_; have HB := n3_; clear n0_ n1_ n2_ n3_; (try clear hb); (try clear hb2); (try clear hk); (try clear hi); have hcz92_0 : w91.cell? ⟨gb107, 0, none⟩ = some (.int .i64 0) := (blk_cell BK107.out 0).trans rfl; have hcz92_1 : w91.cell? ⟨gb107, 1, none⟩ = some (.int .i64 0) := (blk_cell BK107.out 1).trans rfl; have hcz92_2 : w91.cell? ⟨gb107, 2, none⟩ = some (.int .i64 0) := (blk_cell BK107.out 2).trans rfl; have hcz92_3 : w91.cell? ⟨gb107, 3, none⟩ = some (.int .i64 0) := (blk_cell BK107.out 3).trans rfl; have hfz92_0 := blk_frozen BK107.out 0; have hfz92_1 := blk_frozen BK107.out 1; have hfz92_2 := blk_frozen BK107.out 2; have hfz92_3 := blk_frozen BK107.out 3))
                        refine bodyPost_ret (results_cell_row rfl _ _ gb107 23 #[.int .i64 t110, .int .i64 t111, .int .i64 t112, .int .i64 t113] (0, 0) _ rfl (by (with_reducible repeat (first | refine blk_drewN ?_ _ | refine blk_drew ?_ | refine blk_alloc ?_ _)); refine blk_put (cs := #[.int .i64 t110, .int .i64 t111, .int .i64 t112, .int .i64 0]) ?_ 3 _ rfl; (with_reducible repeat (first | refine blk_drewN ?_ _ | refine blk_drew ?_ | refine blk_alloc ?_ _)); refine blk_put (cs := #[.int .i64 t110, .int .i64 t111, .int .i64 0, .int .i64 0]) ?_ 2 _ rfl; (with_reducible repeat (first | refine blk_drewN ?_ _ | refine blk_drew ?_ | refine blk_alloc ?_ _)); refine blk_put (cs := #[.int .i64 t110, .int .i64 0, .int .i64 0, .int .i64 0]) ?_ 1 _ rfl; (with_reducible repeat (first | refine blk_drewN ?_ _ | refine blk_drew ?_ | refine blk_alloc ?_ _)); refine blk_put (cs := #[.int .i64 0, .int .i64 0, .int .i64 0, .int .i64 0]) ?_ 0 _ rfl; (with_reducible repeat (first | refine blk_drewN ?_ _ | refine blk_drew ?_ | refine blk_alloc ?_ _)); exact BK107.out) Try.underlying23 rfl (by kernel_rfl)) rfl ?_
                        exact ⟨by first | rfl | (simp [errW_none, errW_some] <;> rfl) | (simp [*, errW_none, errW_some] <;> rfl), by repeat (first | (with_reducible first | exact HB.out | apply below_alloc | apply pw_below_drewN | apply below_drew1 | refine below_set ?_ GE105.out | refine below_set ?_ GE106.out | refine below_set ?_ GE107.out) | exact HB.out)⟩
                      · replace c84 := Bool.eq_false_iff.mpr c84
                        subst c84
                        have H1 : (if a0_0 = 1 then (some (a0_0, a0_1, 0, (wrap64 (a0_3 + 1)))) else (some (a0_0, a0_1, a0_2, (wrap64 (a0_3 + 1))))) = some (r1, r2, r3, r4) := by rw [if_neg (show ¬ (false = true) by decide)] at H; exact H
                        clear H
                        have H := H1
                        clear H1
                        by_cases c93 : a0_0 = 1
                        · rw [if_pos c93] at H
                          have c93b0 : (a0_0 == 1) = true := beq_iff_eq.mpr c93
                          have c93b1 : (a0_0 != 1) = false := bne_eq_false_iff_eq.mpr c93
                          clear c93
                          simp only [Option.some.injEq, Prod.mk.injEq] at H
                          obtain ⟨rfl, rfl, rfl, rfl⟩ := H
                          have hnb94 := NB105_106.out
                          have hnc94 := NB106_105.out
                          have hnb95 := NB105_107.out
                          have hnc95 := NB107_105.out
                          have hcz96_0 : wc.cell? ⟨gb105, 0, none⟩ = some (.int .i64 a0_0) := (blk_cell BK105.out 0).trans rfl
                          have hcz96_1 : wc.cell? ⟨gb105, 1, none⟩ = some (.int .i64 a0_1) := (blk_cell BK105.out 1).trans rfl
                          have hcz96_2 : wc.cell? ⟨gb105, 2, none⟩ = some (.int .i64 a0_2) := (blk_cell BK105.out 2).trans rfl
                          have hcz96_3 : wc.cell? ⟨gb105, 3, none⟩ = some (.int .i64 (wrap64 (a0_3 + 1))) := (blk_cell BK105.out 3).trans rfl
                          have hfz96_0 := blk_frozen BK105.out 0
                          have hfz96_1 := blk_frozen BK105.out 1
                          have hfz96_2 := blk_frozen BK105.out 2
                          have hfz96_3 := blk_frozen BK105.out 3
                          have hnb97 := NB107_106.out
                          have hnc97 := NB106_107.out
                          have hcz98_0 : wc.cell? ⟨gb107, 0, none⟩ = some (.int .i64 0) := (blk_cell BK107.out 0).trans rfl
                          have hcz98_1 : wc.cell? ⟨gb107, 1, none⟩ = some (.int .i64 0) := (blk_cell BK107.out 1).trans rfl
                          have hcz98_2 : wc.cell? ⟨gb107, 2, none⟩ = some (.int .i64 0) := (blk_cell BK107.out 2).trans rfl
                          have hcz98_3 : wc.cell? ⟨gb107, 3, none⟩ = some (.int .i64 0) := (blk_cell BK107.out 3).trans rfl
                          have hfz98_0 := blk_frozen BK107.out 0
                          have hfz98_1 := blk_frozen BK107.out 1
                          have hfz98_2 := blk_frozen BK107.out 2
                          have hfz98_3 := blk_frozen BK107.out 3
                          go_wp2
                          refine bodyPost_ret (results_cell_row rfl _ _ gb107 23 #[.int .i64 a0_0, .int .i64 a0_1, .int .i64 0, .int .i64 (wrap64 (a0_3 + 1))] (0, 0) _ rfl (by (with_reducible repeat (first | refine blk_drewN ?_ _ | refine blk_drew ?_ | refine blk_alloc ?_ _)); refine blk_put (cs := #[.int .i64 a0_0, .int .i64 a0_1, .int .i64 0, .int .i64 0]) ?_ 3 _ rfl; (with_reducible repeat (first | refine blk_drewN ?_ _ | refine blk_drew ?_ | refine blk_alloc ?_ _)); refine blk_put (cs := #[.int .i64 a0_0, .int .i64 a0_1, .int .i64 0, .int .i64 0]) ?_ 2 _ rfl; (with_reducible repeat (first | refine blk_drewN ?_ _ | refine blk_drew ?_ | refine blk_alloc ?_ _)); refine blk_put (cs := #[.int .i64 a0_0, .int .i64 0, .int .i64 0, .int .i64 0]) ?_ 1 _ rfl; (with_reducible repeat (first | refine blk_drewN ?_ _ | refine blk_drew ?_ | refine blk_alloc ?_ _)); refine blk_put (cs := #[.int .i64 0, .int .i64 0, .int .i64 0, .int .i64 0]) ?_ 0 _ rfl; (with_reducible repeat (first | refine blk_drewN ?_ _ | refine blk_drew ?_ | refine blk_alloc ?_ _)); refine blk_far ?_ NB107_105.out _; (with_reducible repeat (first | refine blk_drewN ?_ _ | refine blk_drew ?_ | refine blk_alloc ?_ _)); exact BK107.out) Try.underlying23 rfl (by kernel_rfl)) rfl ?_
                          exact ⟨by first | rfl | (simp [errW_none, errW_some] <;> rfl) | (simp [*, errW_none, errW_some] <;> rfl), by repeat (first | (with_reducible first | exact HB.out | apply below_alloc | apply pw_below_drewN | apply below_drew1 | refine below_set ?_ GE105.out | refine below_set ?_ GE106.out | refine below_set ?_ GE107.out) | exact HB.out)⟩
                        · rw [if_neg c93] at H
                          have c93b0 : (a0_0 == 1) = false := beq_eq_false_iff_ne.mpr c93
                          have c93b1 : (a0_0 != 1) = true := bne_iff_ne.mpr c93
                          simp only [Option.some.injEq, Prod.mk.injEq] at H
                          obtain ⟨rfl, rfl, rfl, rfl⟩ := H
                          have hnb99 := NB105_106.out
                          have hnc99 := NB106_105.out
                          have hnb100 := NB105_107.out
                          have hnc100 := NB107_105.out
                          have hcz101_0 : wc.cell? ⟨gb105, 0, none⟩ = some (.int .i64 a0_0) := (blk_cell BK105.out 0).trans rfl
                          have hcz101_1 : wc.cell? ⟨gb105, 1, none⟩ = some (.int .i64 a0_1) := (blk_cell BK105.out 1).trans rfl
                          have hcz101_2 : wc.cell? ⟨gb105, 2, none⟩ = some (.int .i64 a0_2) := (blk_cell BK105.out 2).trans rfl
                          have hcz101_3 : wc.cell? ⟨gb105, 3, none⟩ = some (.int .i64 (wrap64 (a0_3 + 1))) := (blk_cell BK105.out 3).trans rfl
                          have hfz101_0 := blk_frozen BK105.out 0
                          have hfz101_1 := blk_frozen BK105.out 1
                          have hfz101_2 := blk_frozen BK105.out 2
                          have hfz101_3 := blk_frozen BK105.out 3
                          have hnb102 := NB107_106.out
                          have hnc102 := NB106_107.out
                          have hcz103_0 : wc.cell? ⟨gb107, 0, none⟩ = some (.int .i64 0) := (blk_cell BK107.out 0).trans rfl
                          have hcz103_1 : wc.cell? ⟨gb107, 1, none⟩ = some (.int .i64 0) := (blk_cell BK107.out 1).trans rfl
                          have hcz103_2 : wc.cell? ⟨gb107, 2, none⟩ = some (.int .i64 0) := (blk_cell BK107.out 2).trans rfl
                          have hcz103_3 : wc.cell? ⟨gb107, 3, none⟩ = some (.int .i64 0) := (blk_cell BK107.out 3).trans rfl
                          have hfz103_0 := blk_frozen BK107.out 0
                          have hfz103_1 := blk_frozen BK107.out 1
                          have hfz103_2 := blk_frozen BK107.out 2
                          have hfz103_3 := blk_frozen BK107.out 3
                          go_wp2
                          refine bodyPost_ret (results_cell_row rfl _ _ gb107 23 #[.int .i64 a0_0, .int .i64 a0_1, .int .i64 a0_2, .int .i64 (wrap64 (a0_3 + 1))] (0, 0) _ rfl (by (with_reducible repeat (first | refine blk_drewN ?_ _ | refine blk_drew ?_ | refine blk_alloc ?_ _)); refine blk_put (cs := #[.int .i64 a0_0, .int .i64 a0_1, .int .i64 a0_2, .int .i64 0]) ?_ 3 _ rfl; (with_reducible repeat (first | refine blk_drewN ?_ _ | refine blk_drew ?_ | refine blk_alloc ?_ _)); refine blk_put (cs := #[.int .i64 a0_0, .int .i64 a0_1, .int .i64 0, .int .i64 0]) ?_ 2 _ rfl; (with_reducible repeat (first | refine blk_drewN ?_ _ | refine blk_drew ?_ | refine blk_alloc ?_ _)); refine blk_put (cs := #[.int .i64 a0_0, .int .i64 0, .int .i64 0, .int .i64 0]) ?_ 1 _ rfl; (with_reducible repeat (first | refine blk_drewN ?_ _ | refine blk_drew ?_ | refine blk_alloc ?_ _)); refine blk_put (cs := #[.int .i64 0, .int .i64 0, .int .i64 0, .int .i64 0]) ?_ 0 _ rfl; (with_reducible repeat (first | refine blk_drewN ?_ _ | refine blk_drew ?_ | refine blk_alloc ?_ _)); exact BK107.out) Try.underlying23 rfl (by kernel_rfl)) rfl ?_
                          exact ⟨by first | rfl | (simp [errW_none, errW_some] <;> rfl) | (simp [*, errW_none, errW_some] <;> rfl), by repeat (first | (with_reducible first | exact HB.out | apply below_alloc | apply pw_below_drewN | apply below_drew1 | refine below_set ?_ GE105.out | refine below_set ?_ GE106.out | refine below_set ?_ GE107.out) | exact HB.out)⟩
            · replace c45 := Bool.eq_false_iff.mpr c45
              subst c45
              have H1 : (some (a0_0, a0_1, a0_2, a0_3)) = some (r1, r2, r3, r4) := by rw [if_neg (show ¬ (false = true) by decide)] at H; exact H
              clear H
              have H := H1
              clear H1
              simp only [Option.some.injEq, Prod.mk.injEq] at H
              obtain ⟨rfl, rfl, rfl, rfl⟩ := H
              have hnb104 := NB106_105.out
              have hnc104 := NB105_106.out
              have hnb105 := NB106_107.out
              have hnc105 := NB107_106.out
              have hcz106_0 : wc.cell? ⟨gb106, 0, none⟩ = some (.int .i64 a1_0) := (blk_cell BK106.out 0).trans rfl
              have hcz106_1 : wc.cell? ⟨gb106, 1, none⟩ = some (.int .i64 a1_1) := (blk_cell BK106.out 1).trans rfl
              have hfz106_0 := blk_frozen BK106.out 0
              have hfz106_1 := blk_frozen BK106.out 1
              have hnb107 := NB105_107.out
              have hnc107 := NB107_105.out
              have hcz108_0 : wc.cell? ⟨gb105, 0, none⟩ = some (.int .i64 a0_0) := (blk_cell BK105.out 0).trans rfl
              have hcz108_1 : wc.cell? ⟨gb105, 1, none⟩ = some (.int .i64 a0_1) := (blk_cell BK105.out 1).trans rfl
              have hcz108_2 : wc.cell? ⟨gb105, 2, none⟩ = some (.int .i64 a0_2) := (blk_cell BK105.out 2).trans rfl
              have hcz108_3 : wc.cell? ⟨gb105, 3, none⟩ = some (.int .i64 a0_3) := (blk_cell BK105.out 3).trans rfl
              have hfz108_0 := blk_frozen BK105.out 0
              have hfz108_1 := blk_frozen BK105.out 1
              have hfz108_2 := blk_frozen BK105.out 2
              have hfz108_3 := blk_frozen BK105.out 3
              go_wp2_with (first | ((with_reducible refine gate_callee (f := 13) rfl ?_); refine goesL_ (some 32) rfl rfl Try.func13 (by kernel_rfl) rfl #[.agg #[.int .i64 a0_0, .int .i64 a0_1, .int .i64 a0_2, .int .i64 a0_3]] rfl (by (try simp only [List.map_toArray, List.map_cons, List.map_nil]); first | done | rfl | (simp only [List.length_drop, List.length_take]; rfl)) ?_; (with_reducible refine (watch_Valid.calls a0_0 a0_1 a0_2 a0_3 false _ A44.out).mono ?_); rintro e w109 ⟨rfl, hb⟩; refine ⟨_, rfl, ?_⟩; have n0_ := Aside0.mk (blk_below (g := gb105) (o := .cells #[.int .i64 a0_0, .int .i64 a0_1, .int .i64 a0_2, .int .i64 a0_3] 23 (0, 0)) (by (with_reducible repeat (first | refine blk_drewN ?_ _ | refine blk_drew ?_ | refine blk_alloc ?_ _)); exact BK105.out) hb); have n1_ := Aside0.mk (blk_below (g := gb106) (o := .cells #[.int .i64 a1_0, .int .i64 a1_1] 29 (0, 0)) (by (with_reducible repeat (first | refine blk_drewN ?_ _ | refine blk_drew ?_ | refine blk_alloc ?_ _)); exact BK106.out) hb); have n2_ := Aside0.mk (blk_below (g := gb107) (o := .cells #[.int .i64 0, .int .i64 0, .int .i64 0, .int .i64 0] 23 (0, 0)) (by (with_reducible repeat (first | refine blk_drewN ?_ _ | refine blk_drew ?_ | refine blk_alloc ?_ _)); exact BK107.out) hb); have n3_ := Aside0.mk (below_step (by repeat (first | (with_reducible first | exact HB.out | apply below_alloc | apply pw_below_drewN | apply below_drew1 | refine below_set ?_ GE105.out | refine below_set ?_ GE106.out | refine below_set ?_ GE107.out) | exact HB.out)) hb); clear BK105; clear BK106; clear BK107; clear HB; have BK105 := n0_; have BK106 := n1_; have BK107 := n2_; have HB := n3_; clear n0_ n1_ n2_ n3_; (try clear hb); (try clear hb2); (try clear hk); (try clear hi); have hcz110_0 : w109.cell? ⟨gb105, 0, none⟩ = some (.int .i64 a0_0) := (blk_cell BK105.out 0).trans rfl; have hcz110_1 : w109.cell? ⟨gb105, 1, none⟩ = some (.int .i64 a0_1) := (blk_cell BK105.out 1).trans rfl; have hcz110_2 : w109.cell? ⟨gb105, 2, none⟩ = some (.int .i64 a0_2) := (blk_cell BK105.out 2).trans rfl; have hcz110_3 : w109.cell? ⟨gb105, 3, none⟩ = some (.int .i64 a0_3) := (blk_cell BK105.out 3).trans rfl; have hfz110_0 := blk_frozen BK105.out 0; have hfz110_1 := blk_frozen BK105.out 1; have hfz110_2 := blk_frozen BK105.out 2; have hfz110_3 := blk_frozen BK105.out 3; have hcz111_0 : w109.cell? ⟨gb107, 0, none⟩ = some (.int .i64 0) := (blk_cell BK107.out 0).trans rfl; have hcz111_1 : w109.cell? ⟨gb107, 1, none⟩ = some (.int .i64 0) := (blk_cell BK107.out 1).trans rfl; have hcz111_2 : w109.cell? ⟨gb107, 2, none⟩ = some (.int .i64 0) := (blk_cell BK107.out 2).trans rfl; have hcz111_3 : w109.cell? ⟨gb107, 3, none⟩ = some (.int .i64 0) := (blk_cell BK107.out 3).trans rfl; have hfz111_0 := blk_frozen BK107.out 0; have hfz111_1 := blk_frozen BK107.out 1; have hfz111_2 := blk_frozen BK107.out 2; have hfz111_3 := blk_frozen BK107.out 3))
              refine bodyPost_ret (results_cell_row rfl _ _ gb107 23 #[.int .i64 a0_0, .int .i64 a0_1, .int .i64 a0_2, .int .i64 a0_3] (0, 0) _ rfl (by (with_reducible repeat (first | refine blk_drewN ?_ _ | refine blk_drew ?_ | refine blk_alloc ?_ _)); refine blk_put (cs := #[.int .i64 a0_0, .int .i64 a0_1, .int .i64 a0_2, .int .i64 0]) ?_ 3 _ rfl; (with_reducible repeat (first | refine blk_drewN ?_ _ | refine blk_drew ?_ | refine blk_alloc ?_ _)); refine blk_put (cs := #[.int .i64 a0_0, .int .i64 a0_1, .int .i64 0, .int .i64 0]) ?_ 2 _ rfl; (with_reducible repeat (first | refine blk_drewN ?_ _ | refine blk_drew ?_ | refine blk_alloc ?_ _)); refine blk_put (cs := #[.int .i64 a0_0, .int .i64 0, .int .i64 0, .int .i64 0]) ?_ 1 _ rfl; (with_reducible repeat (first | refine blk_drewN ?_ _ | refine blk_drew ?_ | refine blk_alloc ?_ _)); refine blk_put (cs := #[.int .i64 0, .int .i64 0, .int .i64 0, .int .i64 0]) ?_ 0 _ rfl; (with_reducible repeat (first | refine blk_drewN ?_ _ | refine blk_drew ?_ | refine blk_alloc ?_ _)); exact BK107.out) Try.underlying23 rfl (by kernel_rfl)) rfl ?_
              exact ⟨by first | rfl | (simp [errW_none, errW_some] <;> rfl) | (simp [*, errW_none, errW_some] <;> rfl), by repeat (first | (with_reducible first | exact HB.out | apply below_alloc | apply pw_below_drewN | apply below_drew1 | refine below_set ?_ GE105.out | refine below_set ?_ GE106.out | refine below_set ?_ GE107.out) | exact HB.out)⟩

end Go.Proofs.Ytlbngnilfenaaaa.PWatchFresh
