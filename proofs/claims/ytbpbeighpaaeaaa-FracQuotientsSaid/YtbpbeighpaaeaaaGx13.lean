-- Written by the kit's print.py for this seat over wip/F/doctor.py, then turned by wip/F/fix.py.
import Derived.Test.YtbpbeighpaaeaaaGx0
import Derived.Test.YtbpbeighpaaeaaaGqd
import Derived.Test.YtbpbeighpaaeaaaFld
import Derived.Test.YtbpbeighpaaeaaaGx1
import Derived.Test.YtbpbeighpaaeaaaGx2
import Derived.Test.YtbpbeighpaaeaaaGx5
import Derived.Test.YtbpbeighpaaeaaaGx6
import Derived.Test.YtbpbeighpaaeaaaGx7
import Derived.Test.YtbpbeighpaaeaaaGx9
namespace Go.Proofs.Ytbpbeighpaaeaaa.G
open Go.RowKit Go.Proofs.YtbpbeighpaaeaaaW.PrintWords Go.Proofs.YtbpbeighpaaeaaaW.PrintLast Go.Proofs.YtbpbeighpaaeaaaW.PrintMore
attribute [local go_sem] max2_int min2_int max_two min_two max_three min_three max_four min_four   -- for this text's walks alone
attribute [local go_sem high] field23_0 field23_1 field23_2
set_option linter.unusedVariables false
set_option linter.unusedSimpArgs false

attribute [local go_sem high] eqA23
/-! ### coupletlaw04_FracQuotients -/
def coupletlaw04_FracQuotients.T4 : Bool × List (List Nat × List Nat) := (true, [([], []), ([0], [0]), ([], []), ([2], [2]), ([1, 3], [1, 3]), ([], []), ([5], [5]), ([], []), ([7], [7]), ([6, 8], [6, 8]), ([4, 0, 1, 2, 3, 4], [4]), ([9, 10, 0, 1, 2, 3, 4, 5, 6, 7, 8, 9, 10], [9])])
def coupletlaw04_FracQuotients.B4 : List Nat := [0, 1, 0, 4, 15, 0, 32, 0, 128, 480, 31, 2047]
theorem coupletlaw04_FracQuotients.tab4 : rtab .any (opsOf Try.f4 4) = coupletlaw04_FracQuotients.T4 := by kernel_rfl
theorem coupletlaw04_FracQuotients.bits4 : waitsOk coupletlaw04_FracQuotients.T4.2 coupletlaw04_FracQuotients.B4 = true := by kernel_rfl
def coupletlaw04_FracQuotients.T8 : Bool × List (List Nat × List Nat) := (true, [([], []), ([], []), ([], []), ([1, 2], [1, 2]), ([0, 3], [0, 3]), ([4, 3], [4]), ([5], [5]), ([6, 5], [5, 6]), ([7, 5, 5], [5, 7]), ([8], [8]), ([8], [8]), ([8], [8]), ([11, 8], [8, 11]), ([8], [8]), ([13, 8], [8, 13]), ([9, 10, 12, 14, 8, 8], [8, 9, 10, 12, 14]), ([8, 15, 5], [5, 8, 15]), ([5, 16], [5, 16]), ([17, 15], [17]), ([18], [18]), ([18], [18]), ([20, 18], [18, 20]), ([21, 18], [18, 21]), ([18], [18]), ([23, 18], [18, 23]), ([22, 24, 18], [18, 22, 24]), ([19, 25, 18], [18, 19, 25]), ([18, 26], [18, 26]), ([27, 18], [27]), ([28, 28], [28]), ([28, 29], [28, 29]), ([30, 29, 0, 1, 2, 3, 4, 5, 6, 7, 8, 9, 10, 11, 12, 13, 14, 15, 16, 17, 18, 19, 20, 21, 22, 23, 24, 25, 26, 27, 28, 29, 30], [30])])
def coupletlaw04_FracQuotients.B8 : List Nat := [0, 0, 0, 6, 15, 31, 63, 127, 255, 511, 511, 511, 2559, 511, 8703, 32767, 65535, 131071, 262143, 524287, 524287, 1572863, 3670015, 524287, 8912895, 33030143, 67108863, 134217727, 268435455, 536870911, 1073741823, 2147483647]
theorem coupletlaw04_FracQuotients.tab8 : rtab .any (opsOf Try.f4 8) = coupletlaw04_FracQuotients.T8 := by kernel_rfl
theorem coupletlaw04_FracQuotients.bits8 : waitsOk coupletlaw04_FracQuotients.T8.2 coupletlaw04_FracQuotients.B8 = true := by kernel_rfl
set_option maxHeartbeats 8000000 in
set_option maxRecDepth 100000 in
theorem coupletlaw04_FracQuotients.calls (k : Nat) (a0_0 : Int) (a0_1 : Int) (a0_2 : Bool) (a1_0 : Int) (a1_1 : Int) (a1_2 : Bool) (r : Bool) (w : World) (hr : r = true) (h : coupletlaw04_FracQuotients.f k a0_0 a0_1 a0_2 a1_0 a1_1 a1_2 = some r) :
    Calls Try.prog 4 #[.agg #[.int .i64 a0_0, .int .i64 a0_1, .bool a0_2], .agg #[.int .i64 a1_0, .int .i64 a1_1, .bool a1_2]] w fun e w' => e = .returned (.bool r) ∧ Below w.heap.size w w' := by
  have hu23 := Try.underlying23
  have HB := Aside0.mk (Below.refl w.heap.size w)
  have H : ((frac_Frac_Div.f k a0_0 a0_1 a0_2 a1_0 a1_1 a1_2).bind fun bt380 => (if a0_0 < (-1073741824) then (coupletlaw04_FracQuotients.j0 k true a0_0 a0_1 a0_2 a1_0 a1_1 a1_2 bt380.1 bt380.2.1 bt380.2.2) else (if a0_0 > 1073741824 then (coupletlaw04_FracQuotients.j0 k true a0_0 a0_1 a0_2 a1_0 a1_1 a1_2 bt380.1 bt380.2.1 bt380.2.2) else (if a0_1 < 1 then (coupletlaw04_FracQuotients.j0 k true a0_0 a0_1 a0_2 a1_0 a1_1 a1_2 bt380.1 bt380.2.1 bt380.2.2) else (if a0_1 > 1073741824 then (coupletlaw04_FracQuotients.j0 k true a0_0 a0_1 a0_2 a1_0 a1_1 a1_2 bt380.1 bt380.2.1 bt380.2.2) else (if a1_0 < (-1073741824) then (coupletlaw04_FracQuotients.j0 k true a0_0 a0_1 a0_2 a1_0 a1_1 a1_2 bt380.1 bt380.2.1 bt380.2.2) else (if a1_0 > 1073741824 then (coupletlaw04_FracQuotients.j0 k true a0_0 a0_1 a0_2 a1_0 a1_1 a1_2 bt380.1 bt380.2.1 bt380.2.2) else (if a1_1 < 1 then (coupletlaw04_FracQuotients.j0 k true a0_0 a0_1 a0_2 a1_0 a1_1 a1_2 bt380.1 bt380.2.1 bt380.2.2) else (if a1_1 > 1073741824 then (coupletlaw04_FracQuotients.j0 k true a0_0 a0_1 a0_2 a1_0 a1_1 a1_2 bt380.1 bt380.2.1 bt380.2.2) else ((coupletlaw04_fine.f k a0_0 a0_1 a0_2).bind fun t384 => (if t384 = true then ((coupletlaw04_fine.f k a1_0 a1_1 a1_2).bind fun t385 => (if t385 = true then (coupletlaw04_FracQuotients.j0 k (a1_0 == 0) a0_0 a0_1 a0_2 a1_0 a1_1 a1_2 bt380.1 bt380.2.1 bt380.2.2) else (coupletlaw04_FracQuotients.j0 k true a0_0 a0_1 a0_2 a1_0 a1_1 a1_2 bt380.1 bt380.2.1 bt380.2.2))) else (coupletlaw04_FracQuotients.j0 k true a0_0 a0_1 a0_2 a1_0 a1_1 a1_2 bt380.1 bt380.2.1 bt380.2.2)))))))))))) = some r := h
  clear h
  replace H := Option.bind_eq_some_iff.mp H
  obtain ⟨⟨t380, t381, t382⟩, A30, H⟩ := H
  replace H : (if a0_0 < (-1073741824) then (coupletlaw04_FracQuotients.j0 k true a0_0 a0_1 a0_2 a1_0 a1_1 a1_2 t380 t381 t382) else (if a0_0 > 1073741824 then (coupletlaw04_FracQuotients.j0 k true a0_0 a0_1 a0_2 a1_0 a1_1 a1_2 t380 t381 t382) else (if a0_1 < 1 then (coupletlaw04_FracQuotients.j0 k true a0_0 a0_1 a0_2 a1_0 a1_1 a1_2 t380 t381 t382) else (if a0_1 > 1073741824 then (coupletlaw04_FracQuotients.j0 k true a0_0 a0_1 a0_2 a1_0 a1_1 a1_2 t380 t381 t382) else (if a1_0 < (-1073741824) then (coupletlaw04_FracQuotients.j0 k true a0_0 a0_1 a0_2 a1_0 a1_1 a1_2 t380 t381 t382) else (if a1_0 > 1073741824 then (coupletlaw04_FracQuotients.j0 k true a0_0 a0_1 a0_2 a1_0 a1_1 a1_2 t380 t381 t382) else (if a1_1 < 1 then (coupletlaw04_FracQuotients.j0 k true a0_0 a0_1 a0_2 a1_0 a1_1 a1_2 t380 t381 t382) else (if a1_1 > 1073741824 then (coupletlaw04_FracQuotients.j0 k true a0_0 a0_1 a0_2 a1_0 a1_1 a1_2 t380 t381 t382) else ((coupletlaw04_fine.f k a0_0 a0_1 a0_2).bind fun t384 => (if t384 = true then ((coupletlaw04_fine.f k a1_0 a1_1 a1_2).bind fun t385 => (if t385 = true then (coupletlaw04_FracQuotients.j0 k (a1_0 == 0) a0_0 a0_1 a0_2 a1_0 a1_1 a1_2 t380 t381 t382) else (coupletlaw04_FracQuotients.j0 k true a0_0 a0_1 a0_2 a1_0 a1_1 a1_2 t380 t381 t382))) else (coupletlaw04_FracQuotients.j0 k true a0_0 a0_1 a0_2 a1_0 a1_1 a1_2 t380 t381 t382))))))))))) = some r := H
  have A3 := Aside0.mk A30
  clear A30
  have HC4 := Aside0.mk H
  clear H
  go_enter Try.func4, Try.ntmps4
  go_upto_region 2 with (first | ((with_reducible refine gate_dst (N := 2) rfl ?_); refine box_event ?hg (N := 2) ?hd (cs := #[.int .i64 a0_0, .int .i64 a0_1, .bool a0_2]) (t := 23) ?hr ?_; (case hd => rfl); (case hg => rfl); (case hr => first | (go_simp; done) | (go_simp; rfl)); intro gb378 hg w5 hbox hb; have n0_ := Aside0.mk (below_step (by repeat (first | (with_reducible first | exact HB.out | apply below_alloc | apply pw_below_drewN | apply below_drew1) | exact HB.out)) hb); have n1_ := Aside0.mk (hbox); have n2_ := Aside0.mk ((by rw [hg]; exact (below_size (by repeat (first | (with_reducible first | exact HB.out | apply below_alloc | apply pw_below_drewN | apply below_drew1) | exact HB.out))) : w.heap.size ≤ gb378)); have n3_ := Aside0.mk ((by rw [hg]; exact (below_size (by repeat (first | (with_reducible first | exact HB.out | apply below_alloc | apply pw_below_drewN | apply below_drew1) | exact HB.out))) : w.heap.size ≤ gb378)); clear HB; have HB := n0_; have BK378 := n1_; have GW378 := n2_; have GE378 := n3_; clear n0_ n1_ n2_ n3_; clear hb hbox hg) | ((with_reducible refine gate_dst (N := 3) rfl ?_); refine box_event ?hg (N := 3) ?hd (cs := #[.int .i64 a1_0, .int .i64 a1_1, .bool a1_2]) (t := 23) ?hr ?_; (case hd => rfl); (case hg => rfl); (case hr => first | (go_simp; done) | (go_simp; rfl)); intro gb379 hg w6 hbox hb; have n0_ := Aside0.mk (blk_below (g := gb378) (o := .cells #[.int .i64 a0_0, .int .i64 a0_1, .bool a0_2] 23 (0, 0)) (by (with_reducible repeat (first | refine blk_drewN ?_ _ | refine blk_drew ?_ | refine blk_alloc ?_ _)); exact BK378.out) hb); have n1_ := Aside0.mk (below_step (by repeat (first | (with_reducible first | exact HB.out | apply below_alloc | apply pw_below_drewN | apply below_drew1 | refine below_set ?_ GE378.out) | exact HB.out)) hb); have n2_ := Aside0.mk (hbox); have n3_ := Aside0.mk ((by rw [hg]; exact (below_size (by repeat (first | (with_reducible first | exact HB.out | apply below_alloc | apply pw_below_drewN | apply below_drew1 | refine below_set ?_ GE378.out) | exact HB.out))) : w.heap.size ≤ gb379)); have n4_ := Aside0.mk ((by rw [hg]; exact (below_size (by repeat (first | (with_reducible first | exact HB.out | apply below_alloc | apply pw_below_drewN | apply below_drew1 | refine below_set ?_ GE378.out) | exact HB.out))) : w.heap.size ≤ gb379)); have n5_ := Aside0.mk ((by rw [hg]; exact Nat.ne_of_lt (blk_lt (g := gb378) (o := .cells #[.int .i64 a0_0, .int .i64 a0_1, .bool a0_2] 23 (0, 0)) (by (with_reducible repeat (first | refine blk_drewN ?_ _ | refine blk_drew ?_ | refine blk_alloc ?_ _)); exact BK378.out)) : gb378 ≠ gb379)); have n6_ := Aside0.mk ((by rw [hg]; exact Nat.ne_of_gt (blk_lt (g := gb378) (o := .cells #[.int .i64 a0_0, .int .i64 a0_1, .bool a0_2] 23 (0, 0)) (by (with_reducible repeat (first | refine blk_drewN ?_ _ | refine blk_drew ?_ | refine blk_alloc ?_ _)); exact BK378.out)) : gb379 ≠ gb378)); clear BK378; clear HB; have BK378 := n0_; have HB := n1_; have BK379 := n2_; have GW379 := n3_; have GE379 := n4_; have NB378_379 := n5_; have NB379_378 := n6_; clear n0_ n1_ n2_ n3_ n4_ n5_ n6_; clear hb hbox hg; have hnb7 := NB378_379.out; have hnc7 := NB379_378.out; have hcz8_0 : w6.cell? ⟨gb378, 0, none⟩ = some (.int .i64 a0_0) := (blk_cell BK378.out 0).trans rfl; have hcz8_1 : w6.cell? ⟨gb378, 1, none⟩ = some (.int .i64 a0_1) := (blk_cell BK378.out 1).trans rfl; have hcz8_2 : w6.cell? ⟨gb378, 2, none⟩ = some (.bool a0_2) := (blk_cell BK378.out 2).trans rfl; have hfz8_0 := blk_frozen BK378.out 0; have hfz8_1 := blk_frozen BK378.out 1; have hfz8_2 := blk_frozen BK378.out 2; have hcz9_0 : w6.cell? ⟨gb379, 0, none⟩ = some (.int .i64 a1_0) := (blk_cell BK379.out 0).trans rfl; have hcz9_1 : w6.cell? ⟨gb379, 1, none⟩ = some (.int .i64 a1_1) := (blk_cell BK379.out 1).trans rfl; have hcz9_2 : w6.cell? ⟨gb379, 2, none⟩ = some (.bool a1_2) := (blk_cell BK379.out 2).trans rfl; have hfz9_0 := blk_frozen BK379.out 0; have hfz9_1 := blk_frozen BK379.out 1; have hfz9_2 := blk_frozen BK379.out 2) | ((with_reducible refine gate_callee (f := 17) rfl ?_); refine goesL_ (some 11) rfl rfl Try.func17 (by kernel_rfl) rfl #[.agg #[.int .i64 a0_0, .int .i64 a0_1, .bool a0_2], .agg #[.int .i64 a1_0, .int .i64 a1_1, .bool a1_2]] rfl (by (try simp only [List.map_toArray, List.map_cons, List.map_nil]); first | done | rfl | (simp only [List.length_drop, List.length_take]; rfl)) ?_; (with_reducible refine (frac_Frac_Div.calls k a0_0 a0_1 a0_2 a1_0 a1_1 a1_2 t380 t381 t382 _ A3.out).mono ?_); rintro e w10 ⟨rfl, hb⟩; refine ⟨_, rfl, ?_⟩; have n0_ := Aside0.mk (blk_below (g := gb378) (o := .cells #[.int .i64 a0_0, .int .i64 a0_1, .bool a0_2] 23 (0, 0)) (by (with_reducible repeat (first | refine blk_drewN ?_ _ | refine blk_drew ?_ | refine blk_alloc ?_ _)); exact BK378.out) hb); have n1_ := Aside0.mk (blk_below (g := gb379) (o := .cells #[.int .i64 a1_0, .int .i64 a1_1, .bool a1_2] 23 (0, 0)) (by (with_reducible repeat (first | refine blk_drewN ?_ _ | refine blk_drew ?_ | refine blk_alloc ?_ _)); exact BK379.out) hb); have n2_ := Aside0.mk (below_step (by repeat (first | (with_reducible first | exact HB.out | apply below_alloc | apply pw_below_drewN | apply below_drew1 | refine below_set ?_ GE378.out | refine below_set ?_ GE379.out) | exact HB.out)) hb); clear BK378; clear BK379; clear HB; have BK378 := n0_; have BK379 := n1_; have HB := n2_; clear n0_ n1_ n2_; (try clear hb); (try clear hb2); (try clear hk); (try clear hi)) | ((with_reducible refine gate_dst (N := 5) rfl ?_); refine box_event ?hg (N := 5) ?hd (cs := #[.int .i64 0, .int .i64 0, .bool false]) (t := 23) ?hr ?_; (case hd => rfl); (case hg => rfl); (case hr => first | (go_simp; done) | (go_simp; rfl)); intro gb383 hg w11 hbox hb; have n0_ := Aside0.mk (blk_below (g := gb378) (o := .cells #[.int .i64 a0_0, .int .i64 a0_1, .bool a0_2] 23 (0, 0)) (by (with_reducible repeat (first | refine blk_drewN ?_ _ | refine blk_drew ?_ | refine blk_alloc ?_ _)); exact BK378.out) hb); have n1_ := Aside0.mk (blk_below (g := gb379) (o := .cells #[.int .i64 a1_0, .int .i64 a1_1, .bool a1_2] 23 (0, 0)) (by (with_reducible repeat (first | refine blk_drewN ?_ _ | refine blk_drew ?_ | refine blk_alloc ?_ _)); exact BK379.out) hb); have n2_ := Aside0.mk (below_step (by repeat (first | (with_reducible first | exact HB.out | apply below_alloc | apply pw_below_drewN | apply below_drew1 | refine below_set ?_ GE378.out | refine below_set ?_ GE379.out) | exact HB.out)) hb); have n3_ := Aside0.mk (hbox); have n4_ := Aside0.mk ((by rw [hg]; exact (below_size (by repeat (first | (with_reducible first | exact HB.out | apply below_alloc | apply pw_below_drewN | apply below_drew1 | refine below_set ?_ GE378.out | refine below_set ?_ GE379.out) | exact HB.out))) : w.heap.size ≤ gb383)); have n5_ := Aside0.mk ((by rw [hg]; exact (below_size (by repeat (first | (with_reducible first | exact HB.out | apply below_alloc | apply pw_below_drewN | apply below_drew1 | refine below_set ?_ GE378.out | refine below_set ?_ GE379.out) | exact HB.out))) : w.heap.size ≤ gb383)); have n6_ := Aside0.mk ((by rw [hg]; exact Nat.ne_of_lt (blk_lt (g := gb378) (o := .cells #[.int .i64 a0_0, .int .i64 a0_1, .bool a0_2] 23 (0, 0)) (by (with_reducible repeat (first | refine blk_drewN ?_ _ | refine blk_drew ?_ | refine blk_alloc ?_ _)); exact BK378.out)) : gb378 ≠ gb383)); have n7_ := Aside0.mk ((by rw [hg]; exact Nat.ne_of_gt (blk_lt (g := gb378) (o := .cells #[.int .i64 a0_0, .int .i64 a0_1, .bool a0_2] 23 (0, 0)) (by (with_reducible repeat (first | refine blk_drewN ?_ _ | refine blk_drew ?_ | refine blk_alloc ?_ _)); exact BK378.out)) : gb383 ≠ gb378)); have n8_ := Aside0.mk ((by rw [hg]; exact Nat.ne_of_lt (blk_lt (g := gb379) (o := .cells #[.int .i64 a1_0, .int .i64 a1_1, .bool a1_2] 23 (0, 0)) (by (with_reducible repeat (first | refine blk_drewN ?_ _ | refine blk_drew ?_ | refine blk_alloc ?_ _)); exact BK379.out)) : gb379 ≠ gb383)); have n9_ := Aside0.mk ((by rw [hg]; exact Nat.ne_of_gt (blk_lt (g := gb379) (o := .cells #[.int .i64 a1_0, .int .i64 a1_1, .bool a1_2] 23 (0, 0)) (by (with_reducible repeat (first | refine blk_drewN ?_ _ | refine blk_drew ?_ | refine blk_alloc ?_ _)); exact BK379.out)) : gb383 ≠ gb379)); clear BK378; clear BK379; clear HB; have BK378 := n0_; have BK379 := n1_; have HB := n2_; have BK383 := n3_; have GW383 := n4_; have GE383 := n5_; have NB378_383 := n6_; have NB383_378 := n7_; have NB379_383 := n8_; have NB383_379 := n9_; clear n0_ n1_ n2_ n3_ n4_ n5_ n6_ n7_ n8_ n9_; clear hb hbox hg; have hnb12 := NB383_378.out; have hnc12 := NB378_383.out; have hnb13 := NB383_379.out; have hnc13 := NB379_383.out; have hcz14_0 : w11.cell? ⟨gb383, 0, none⟩ = some (.int .i64 0) := (blk_cell BK383.out 0).trans rfl; have hcz14_1 : w11.cell? ⟨gb383, 1, none⟩ = some (.int .i64 0) := (blk_cell BK383.out 1).trans rfl; have hcz14_2 : w11.cell? ⟨gb383, 2, none⟩ = some (.bool false) := (blk_cell BK383.out 2).trans rfl; have hfz14_0 := blk_frozen BK383.out 0; have hfz14_1 := blk_frozen BK383.out 1; have hfz14_2 := blk_frozen BK383.out 2))
  (try simp only [Act.put, List.setIfInBounds_toArray, List.set_cons_zero, List.set_cons_succ])
  go_cut [64] (fun v64 wc => ∃ (kq : Nat) (x64_3 : Bool), v64 = .bool x64_3 ∧ Aside0 (coupletlaw04_FracQuotients.j0 kq x64_3 a0_0 a0_1 a0_2 a1_0 a1_1 a1_2 t380 t381 t382 = some r) ∧ Aside0 (kq ≤ k) ∧ Aside0 (wc.heap[gb378]? = some (.cells #[.int .i64 a0_0, .int .i64 a0_1, .bool a0_2] 23 (0, 0))) ∧ Aside0 (wc.heap[gb379]? = some (.cells #[.int .i64 a1_0, .int .i64 a1_1, .bool a1_2] 23 (0, 0))) ∧ Aside0 (wc.heap[gb383]? = some (.cells #[.int .i64 t380, .int .i64 t381, .bool t382] 23 (0, 0))) ∧ Aside0 (Below w.heap.size w wc))
  case first =>
    have H := HC4.out
    clear HC4
    by_cases c15 : a0_0 < (-1073741824)
    · rw [if_pos c15] at H
      have c15b0 : decide (a0_0 < (-1073741824)) = true := decide_eq_true c15
      clear c15
      (first | rw [c15b0] | (simp only [i64_w, i32_w]; rw [c15b0]) | skip)
      have H' := Aside0.mk H
      clear H
      have hnb16 := NB378_379.out
      have hnc16 := NB379_378.out
      have hnb17 := NB378_383.out
      have hnc17 := NB383_378.out
      have hcz18_0 : w11.cell? ⟨gb378, 0, none⟩ = some (.int .i64 a0_0) := (blk_cell BK378.out 0).trans rfl
      have hcz18_1 : w11.cell? ⟨gb378, 1, none⟩ = some (.int .i64 a0_1) := (blk_cell BK378.out 1).trans rfl
      have hcz18_2 : w11.cell? ⟨gb378, 2, none⟩ = some (.bool a0_2) := (blk_cell BK378.out 2).trans rfl
      have hfz18_0 := blk_frozen BK378.out 0
      have hfz18_1 := blk_frozen BK378.out 1
      have hfz18_2 := blk_frozen BK378.out 2
      go_wp2
      go_meet
      case rel => exact ⟨_, (true), (by first | rfl | (simp; done) | (simp [*]; done)), H', ⟨by first | omega | exact Nat.le_refl _⟩, ⟨by (with_reducible repeat (first | refine blk_drewN ?_ _ | refine blk_drew ?_ | refine blk_alloc ?_ _)); refine blk_far ?_ NB378_383.out _; (with_reducible repeat (first | refine blk_drewN ?_ _ | refine blk_drew ?_ | refine blk_alloc ?_ _)); refine blk_far ?_ NB378_383.out _; (with_reducible repeat (first | refine blk_drewN ?_ _ | refine blk_drew ?_ | refine blk_alloc ?_ _)); refine blk_far ?_ NB378_383.out _; (with_reducible repeat (first | refine blk_drewN ?_ _ | refine blk_drew ?_ | refine blk_alloc ?_ _)); exact BK378.out⟩, ⟨by (with_reducible repeat (first | refine blk_drewN ?_ _ | refine blk_drew ?_ | refine blk_alloc ?_ _)); refine blk_far ?_ NB379_383.out _; (with_reducible repeat (first | refine blk_drewN ?_ _ | refine blk_drew ?_ | refine blk_alloc ?_ _)); refine blk_far ?_ NB379_383.out _; (with_reducible repeat (first | refine blk_drewN ?_ _ | refine blk_drew ?_ | refine blk_alloc ?_ _)); refine blk_far ?_ NB379_383.out _; (with_reducible repeat (first | refine blk_drewN ?_ _ | refine blk_drew ?_ | refine blk_alloc ?_ _)); exact BK379.out⟩, ⟨by (with_reducible repeat (first | refine blk_drewN ?_ _ | refine blk_drew ?_ | refine blk_alloc ?_ _)); refine blk_put (cs := #[.int .i64 t380, .int .i64 t381, .bool false]) ?_ 2 _ rfl; (with_reducible repeat (first | refine blk_drewN ?_ _ | refine blk_drew ?_ | refine blk_alloc ?_ _)); refine blk_put (cs := #[.int .i64 t380, .int .i64 0, .bool false]) ?_ 1 _ rfl; (with_reducible repeat (first | refine blk_drewN ?_ _ | refine blk_drew ?_ | refine blk_alloc ?_ _)); refine blk_put (cs := #[.int .i64 0, .int .i64 0, .bool false]) ?_ 0 _ rfl; (with_reducible repeat (first | refine blk_drewN ?_ _ | refine blk_drew ?_ | refine blk_alloc ?_ _)); exact BK383.out⟩, ⟨by repeat (first | (with_reducible first | exact HB.out | apply below_alloc | apply pw_below_drewN | apply below_drew1 | refine below_set ?_ GE378.out | refine below_set ?_ GE379.out | refine below_set ?_ GE383.out) | exact HB.out)⟩⟩
    · rw [if_neg c15] at H
      have c15b0 : decide (a0_0 < (-1073741824)) = false := decide_eq_false c15
      clear c15
      (first | rw [c15b0] | (simp only [i64_w, i32_w]; rw [c15b0]) | skip)
      by_cases c19 : a0_0 > 1073741824
      · rw [if_pos c19] at H
        have c19b0 : decide (1073741824 < a0_0) = true := decide_eq_true c19
        clear c19
        have H' := Aside0.mk H
        clear H
        have hnb20 := NB378_379.out
        have hnc20 := NB379_378.out
        have hnb21 := NB378_383.out
        have hnc21 := NB383_378.out
        have hcz22_0 : w11.cell? ⟨gb378, 0, none⟩ = some (.int .i64 a0_0) := (blk_cell BK378.out 0).trans rfl
        have hcz22_1 : w11.cell? ⟨gb378, 1, none⟩ = some (.int .i64 a0_1) := (blk_cell BK378.out 1).trans rfl
        have hcz22_2 : w11.cell? ⟨gb378, 2, none⟩ = some (.bool a0_2) := (blk_cell BK378.out 2).trans rfl
        have hfz22_0 := blk_frozen BK378.out 0
        have hfz22_1 := blk_frozen BK378.out 1
        have hfz22_2 := blk_frozen BK378.out 2
        go_wp2
        go_meet
        case rel => exact ⟨_, (true), (by first | rfl | (simp; done) | (simp [*]; done)), H', ⟨by first | omega | exact Nat.le_refl _⟩, ⟨by (with_reducible repeat (first | refine blk_drewN ?_ _ | refine blk_drew ?_ | refine blk_alloc ?_ _)); refine blk_far ?_ NB378_383.out _; (with_reducible repeat (first | refine blk_drewN ?_ _ | refine blk_drew ?_ | refine blk_alloc ?_ _)); refine blk_far ?_ NB378_383.out _; (with_reducible repeat (first | refine blk_drewN ?_ _ | refine blk_drew ?_ | refine blk_alloc ?_ _)); refine blk_far ?_ NB378_383.out _; (with_reducible repeat (first | refine blk_drewN ?_ _ | refine blk_drew ?_ | refine blk_alloc ?_ _)); exact BK378.out⟩, ⟨by (with_reducible repeat (first | refine blk_drewN ?_ _ | refine blk_drew ?_ | refine blk_alloc ?_ _)); refine blk_far ?_ NB379_383.out _; (with_reducible repeat (first | refine blk_drewN ?_ _ | refine blk_drew ?_ | refine blk_alloc ?_ _)); refine blk_far ?_ NB379_383.out _; (with_reducible repeat (first | refine blk_drewN ?_ _ | refine blk_drew ?_ | refine blk_alloc ?_ _)); refine blk_far ?_ NB379_383.out _; (with_reducible repeat (first | refine blk_drewN ?_ _ | refine blk_drew ?_ | refine blk_alloc ?_ _)); exact BK379.out⟩, ⟨by (with_reducible repeat (first | refine blk_drewN ?_ _ | refine blk_drew ?_ | refine blk_alloc ?_ _)); refine blk_put (cs := #[.int .i64 t380, .int .i64 t381, .bool false]) ?_ 2 _ rfl; (with_reducible repeat (first | refine blk_drewN ?_ _ | refine blk_drew ?_ | refine blk_alloc ?_ _)); refine blk_put (cs := #[.int .i64 t380, .int .i64 0, .bool false]) ?_ 1 _ rfl; (with_reducible repeat (first | refine blk_drewN ?_ _ | refine blk_drew ?_ | refine blk_alloc ?_ _)); refine blk_put (cs := #[.int .i64 0, .int .i64 0, .bool false]) ?_ 0 _ rfl; (with_reducible repeat (first | refine blk_drewN ?_ _ | refine blk_drew ?_ | refine blk_alloc ?_ _)); exact BK383.out⟩, ⟨by repeat (first | (with_reducible first | exact HB.out | apply below_alloc | apply pw_below_drewN | apply below_drew1 | refine below_set ?_ GE378.out | refine below_set ?_ GE379.out | refine below_set ?_ GE383.out) | exact HB.out)⟩⟩
      · rw [if_neg c19] at H
        have c19b0 : decide (1073741824 < a0_0) = false := decide_eq_false c19
        clear c19
        by_cases c23 : a0_1 < 1
        · rw [if_pos c23] at H
          have c23b0 : decide (a0_1 < 1) = true := decide_eq_true c23
          clear c23
          have H' := Aside0.mk H
          clear H
          have hnb24 := NB378_379.out
          have hnc24 := NB379_378.out
          have hnb25 := NB378_383.out
          have hnc25 := NB383_378.out
          have hcz26_0 : w11.cell? ⟨gb378, 0, none⟩ = some (.int .i64 a0_0) := (blk_cell BK378.out 0).trans rfl
          have hcz26_1 : w11.cell? ⟨gb378, 1, none⟩ = some (.int .i64 a0_1) := (blk_cell BK378.out 1).trans rfl
          have hcz26_2 : w11.cell? ⟨gb378, 2, none⟩ = some (.bool a0_2) := (blk_cell BK378.out 2).trans rfl
          have hfz26_0 := blk_frozen BK378.out 0
          have hfz26_1 := blk_frozen BK378.out 1
          have hfz26_2 := blk_frozen BK378.out 2
          go_wp2
          go_meet
          case rel => exact ⟨_, (true), (by first | rfl | (simp; done) | (simp [*]; done)), H', ⟨by first | omega | exact Nat.le_refl _⟩, ⟨by (with_reducible repeat (first | refine blk_drewN ?_ _ | refine blk_drew ?_ | refine blk_alloc ?_ _)); refine blk_far ?_ NB378_383.out _; (with_reducible repeat (first | refine blk_drewN ?_ _ | refine blk_drew ?_ | refine blk_alloc ?_ _)); refine blk_far ?_ NB378_383.out _; (with_reducible repeat (first | refine blk_drewN ?_ _ | refine blk_drew ?_ | refine blk_alloc ?_ _)); refine blk_far ?_ NB378_383.out _; (with_reducible repeat (first | refine blk_drewN ?_ _ | refine blk_drew ?_ | refine blk_alloc ?_ _)); exact BK378.out⟩, ⟨by (with_reducible repeat (first | refine blk_drewN ?_ _ | refine blk_drew ?_ | refine blk_alloc ?_ _)); refine blk_far ?_ NB379_383.out _; (with_reducible repeat (first | refine blk_drewN ?_ _ | refine blk_drew ?_ | refine blk_alloc ?_ _)); refine blk_far ?_ NB379_383.out _; (with_reducible repeat (first | refine blk_drewN ?_ _ | refine blk_drew ?_ | refine blk_alloc ?_ _)); refine blk_far ?_ NB379_383.out _; (with_reducible repeat (first | refine blk_drewN ?_ _ | refine blk_drew ?_ | refine blk_alloc ?_ _)); exact BK379.out⟩, ⟨by (with_reducible repeat (first | refine blk_drewN ?_ _ | refine blk_drew ?_ | refine blk_alloc ?_ _)); refine blk_put (cs := #[.int .i64 t380, .int .i64 t381, .bool false]) ?_ 2 _ rfl; (with_reducible repeat (first | refine blk_drewN ?_ _ | refine blk_drew ?_ | refine blk_alloc ?_ _)); refine blk_put (cs := #[.int .i64 t380, .int .i64 0, .bool false]) ?_ 1 _ rfl; (with_reducible repeat (first | refine blk_drewN ?_ _ | refine blk_drew ?_ | refine blk_alloc ?_ _)); refine blk_put (cs := #[.int .i64 0, .int .i64 0, .bool false]) ?_ 0 _ rfl; (with_reducible repeat (first | refine blk_drewN ?_ _ | refine blk_drew ?_ | refine blk_alloc ?_ _)); exact BK383.out⟩, ⟨by repeat (first | (with_reducible first | exact HB.out | apply below_alloc | apply pw_below_drewN | apply below_drew1 | refine below_set ?_ GE378.out | refine below_set ?_ GE379.out | refine below_set ?_ GE383.out) | exact HB.out)⟩⟩
        · rw [if_neg c23] at H
          have c23b0 : decide (a0_1 < 1) = false := decide_eq_false c23
          clear c23
          by_cases c27 : a0_1 > 1073741824
          · rw [if_pos c27] at H
            have c27b0 : decide (1073741824 < a0_1) = true := decide_eq_true c27
            clear c27
            have H' := Aside0.mk H
            clear H
            have hnb28 := NB378_379.out
            have hnc28 := NB379_378.out
            have hnb29 := NB378_383.out
            have hnc29 := NB383_378.out
            have hcz30_0 : w11.cell? ⟨gb378, 0, none⟩ = some (.int .i64 a0_0) := (blk_cell BK378.out 0).trans rfl
            have hcz30_1 : w11.cell? ⟨gb378, 1, none⟩ = some (.int .i64 a0_1) := (blk_cell BK378.out 1).trans rfl
            have hcz30_2 : w11.cell? ⟨gb378, 2, none⟩ = some (.bool a0_2) := (blk_cell BK378.out 2).trans rfl
            have hfz30_0 := blk_frozen BK378.out 0
            have hfz30_1 := blk_frozen BK378.out 1
            have hfz30_2 := blk_frozen BK378.out 2
            go_wp2
            go_meet
            case rel => exact ⟨_, (true), (by first | rfl | (simp; done) | (simp [*]; done)), H', ⟨by first | omega | exact Nat.le_refl _⟩, ⟨by (with_reducible repeat (first | refine blk_drewN ?_ _ | refine blk_drew ?_ | refine blk_alloc ?_ _)); refine blk_far ?_ NB378_383.out _; (with_reducible repeat (first | refine blk_drewN ?_ _ | refine blk_drew ?_ | refine blk_alloc ?_ _)); refine blk_far ?_ NB378_383.out _; (with_reducible repeat (first | refine blk_drewN ?_ _ | refine blk_drew ?_ | refine blk_alloc ?_ _)); refine blk_far ?_ NB378_383.out _; (with_reducible repeat (first | refine blk_drewN ?_ _ | refine blk_drew ?_ | refine blk_alloc ?_ _)); exact BK378.out⟩, ⟨by (with_reducible repeat (first | refine blk_drewN ?_ _ | refine blk_drew ?_ | refine blk_alloc ?_ _)); refine blk_far ?_ NB379_383.out _; (with_reducible repeat (first | refine blk_drewN ?_ _ | refine blk_drew ?_ | refine blk_alloc ?_ _)); refine blk_far ?_ NB379_383.out _; (with_reducible repeat (first | refine blk_drewN ?_ _ | refine blk_drew ?_ | refine blk_alloc ?_ _)); refine blk_far ?_ NB379_383.out _; (with_reducible repeat (first | refine blk_drewN ?_ _ | refine blk_drew ?_ | refine blk_alloc ?_ _)); exact BK379.out⟩, ⟨by (with_reducible repeat (first | refine blk_drewN ?_ _ | refine blk_drew ?_ | refine blk_alloc ?_ _)); refine blk_put (cs := #[.int .i64 t380, .int .i64 t381, .bool false]) ?_ 2 _ rfl; (with_reducible repeat (first | refine blk_drewN ?_ _ | refine blk_drew ?_ | refine blk_alloc ?_ _)); refine blk_put (cs := #[.int .i64 t380, .int .i64 0, .bool false]) ?_ 1 _ rfl; (with_reducible repeat (first | refine blk_drewN ?_ _ | refine blk_drew ?_ | refine blk_alloc ?_ _)); refine blk_put (cs := #[.int .i64 0, .int .i64 0, .bool false]) ?_ 0 _ rfl; (with_reducible repeat (first | refine blk_drewN ?_ _ | refine blk_drew ?_ | refine blk_alloc ?_ _)); exact BK383.out⟩, ⟨by repeat (first | (with_reducible first | exact HB.out | apply below_alloc | apply pw_below_drewN | apply below_drew1 | refine below_set ?_ GE378.out | refine below_set ?_ GE379.out | refine below_set ?_ GE383.out) | exact HB.out)⟩⟩
          · rw [if_neg c27] at H
            have c27b0 : decide (1073741824 < a0_1) = false := decide_eq_false c27
            clear c27
            by_cases c31 : a1_0 < (-1073741824)
            · rw [if_pos c31] at H
              have c31b0 : decide (a1_0 < (-1073741824)) = true := decide_eq_true c31
              clear c31
              have H' := Aside0.mk H
              clear H
              have hnb32 := NB378_379.out
              have hnc32 := NB379_378.out
              have hnb33 := NB378_383.out
              have hnc33 := NB383_378.out
              have hcz34_0 : w11.cell? ⟨gb378, 0, none⟩ = some (.int .i64 a0_0) := (blk_cell BK378.out 0).trans rfl
              have hcz34_1 : w11.cell? ⟨gb378, 1, none⟩ = some (.int .i64 a0_1) := (blk_cell BK378.out 1).trans rfl
              have hcz34_2 : w11.cell? ⟨gb378, 2, none⟩ = some (.bool a0_2) := (blk_cell BK378.out 2).trans rfl
              have hfz34_0 := blk_frozen BK378.out 0
              have hfz34_1 := blk_frozen BK378.out 1
              have hfz34_2 := blk_frozen BK378.out 2
              have hnb35 := NB379_383.out
              have hnc35 := NB383_379.out
              have hcz36_0 : w11.cell? ⟨gb379, 0, none⟩ = some (.int .i64 a1_0) := (blk_cell BK379.out 0).trans rfl
              have hcz36_1 : w11.cell? ⟨gb379, 1, none⟩ = some (.int .i64 a1_1) := (blk_cell BK379.out 1).trans rfl
              have hcz36_2 : w11.cell? ⟨gb379, 2, none⟩ = some (.bool a1_2) := (blk_cell BK379.out 2).trans rfl
              have hfz36_0 := blk_frozen BK379.out 0
              have hfz36_1 := blk_frozen BK379.out 1
              have hfz36_2 := blk_frozen BK379.out 2
              go_wp2
              go_meet
              case rel => exact ⟨_, (true), (by first | rfl | (simp; done) | (simp [*]; done)), H', ⟨by first | omega | exact Nat.le_refl _⟩, ⟨by (with_reducible repeat (first | refine blk_drewN ?_ _ | refine blk_drew ?_ | refine blk_alloc ?_ _)); refine blk_far ?_ NB378_383.out _; (with_reducible repeat (first | refine blk_drewN ?_ _ | refine blk_drew ?_ | refine blk_alloc ?_ _)); refine blk_far ?_ NB378_383.out _; (with_reducible repeat (first | refine blk_drewN ?_ _ | refine blk_drew ?_ | refine blk_alloc ?_ _)); refine blk_far ?_ NB378_383.out _; (with_reducible repeat (first | refine blk_drewN ?_ _ | refine blk_drew ?_ | refine blk_alloc ?_ _)); exact BK378.out⟩, ⟨by (with_reducible repeat (first | refine blk_drewN ?_ _ | refine blk_drew ?_ | refine blk_alloc ?_ _)); refine blk_far ?_ NB379_383.out _; (with_reducible repeat (first | refine blk_drewN ?_ _ | refine blk_drew ?_ | refine blk_alloc ?_ _)); refine blk_far ?_ NB379_383.out _; (with_reducible repeat (first | refine blk_drewN ?_ _ | refine blk_drew ?_ | refine blk_alloc ?_ _)); refine blk_far ?_ NB379_383.out _; (with_reducible repeat (first | refine blk_drewN ?_ _ | refine blk_drew ?_ | refine blk_alloc ?_ _)); exact BK379.out⟩, ⟨by (with_reducible repeat (first | refine blk_drewN ?_ _ | refine blk_drew ?_ | refine blk_alloc ?_ _)); refine blk_put (cs := #[.int .i64 t380, .int .i64 t381, .bool false]) ?_ 2 _ rfl; (with_reducible repeat (first | refine blk_drewN ?_ _ | refine blk_drew ?_ | refine blk_alloc ?_ _)); refine blk_put (cs := #[.int .i64 t380, .int .i64 0, .bool false]) ?_ 1 _ rfl; (with_reducible repeat (first | refine blk_drewN ?_ _ | refine blk_drew ?_ | refine blk_alloc ?_ _)); refine blk_put (cs := #[.int .i64 0, .int .i64 0, .bool false]) ?_ 0 _ rfl; (with_reducible repeat (first | refine blk_drewN ?_ _ | refine blk_drew ?_ | refine blk_alloc ?_ _)); exact BK383.out⟩, ⟨by repeat (first | (with_reducible first | exact HB.out | apply below_alloc | apply pw_below_drewN | apply below_drew1 | refine below_set ?_ GE378.out | refine below_set ?_ GE379.out | refine below_set ?_ GE383.out) | exact HB.out)⟩⟩
            · rw [if_neg c31] at H
              have c31b0 : decide (a1_0 < (-1073741824)) = false := decide_eq_false c31
              clear c31
              by_cases c37 : a1_0 > 1073741824
              · rw [if_pos c37] at H
                have c37b0 : decide (1073741824 < a1_0) = true := decide_eq_true c37
                clear c37
                have H' := Aside0.mk H
                clear H
                have hnb38 := NB378_379.out
                have hnc38 := NB379_378.out
                have hnb39 := NB378_383.out
                have hnc39 := NB383_378.out
                have hcz40_0 : w11.cell? ⟨gb378, 0, none⟩ = some (.int .i64 a0_0) := (blk_cell BK378.out 0).trans rfl
                have hcz40_1 : w11.cell? ⟨gb378, 1, none⟩ = some (.int .i64 a0_1) := (blk_cell BK378.out 1).trans rfl
                have hcz40_2 : w11.cell? ⟨gb378, 2, none⟩ = some (.bool a0_2) := (blk_cell BK378.out 2).trans rfl
                have hfz40_0 := blk_frozen BK378.out 0
                have hfz40_1 := blk_frozen BK378.out 1
                have hfz40_2 := blk_frozen BK378.out 2
                have hnb41 := NB379_383.out
                have hnc41 := NB383_379.out
                have hcz42_0 : w11.cell? ⟨gb379, 0, none⟩ = some (.int .i64 a1_0) := (blk_cell BK379.out 0).trans rfl
                have hcz42_1 : w11.cell? ⟨gb379, 1, none⟩ = some (.int .i64 a1_1) := (blk_cell BK379.out 1).trans rfl
                have hcz42_2 : w11.cell? ⟨gb379, 2, none⟩ = some (.bool a1_2) := (blk_cell BK379.out 2).trans rfl
                have hfz42_0 := blk_frozen BK379.out 0
                have hfz42_1 := blk_frozen BK379.out 1
                have hfz42_2 := blk_frozen BK379.out 2
                go_wp2
                go_meet
                case rel => exact ⟨_, (true), (by first | rfl | (simp; done) | (simp [*]; done)), H', ⟨by first | omega | exact Nat.le_refl _⟩, ⟨by (with_reducible repeat (first | refine blk_drewN ?_ _ | refine blk_drew ?_ | refine blk_alloc ?_ _)); refine blk_far ?_ NB378_383.out _; (with_reducible repeat (first | refine blk_drewN ?_ _ | refine blk_drew ?_ | refine blk_alloc ?_ _)); refine blk_far ?_ NB378_383.out _; (with_reducible repeat (first | refine blk_drewN ?_ _ | refine blk_drew ?_ | refine blk_alloc ?_ _)); refine blk_far ?_ NB378_383.out _; (with_reducible repeat (first | refine blk_drewN ?_ _ | refine blk_drew ?_ | refine blk_alloc ?_ _)); exact BK378.out⟩, ⟨by (with_reducible repeat (first | refine blk_drewN ?_ _ | refine blk_drew ?_ | refine blk_alloc ?_ _)); refine blk_far ?_ NB379_383.out _; (with_reducible repeat (first | refine blk_drewN ?_ _ | refine blk_drew ?_ | refine blk_alloc ?_ _)); refine blk_far ?_ NB379_383.out _; (with_reducible repeat (first | refine blk_drewN ?_ _ | refine blk_drew ?_ | refine blk_alloc ?_ _)); refine blk_far ?_ NB379_383.out _; (with_reducible repeat (first | refine blk_drewN ?_ _ | refine blk_drew ?_ | refine blk_alloc ?_ _)); exact BK379.out⟩, ⟨by (with_reducible repeat (first | refine blk_drewN ?_ _ | refine blk_drew ?_ | refine blk_alloc ?_ _)); refine blk_put (cs := #[.int .i64 t380, .int .i64 t381, .bool false]) ?_ 2 _ rfl; (with_reducible repeat (first | refine blk_drewN ?_ _ | refine blk_drew ?_ | refine blk_alloc ?_ _)); refine blk_put (cs := #[.int .i64 t380, .int .i64 0, .bool false]) ?_ 1 _ rfl; (with_reducible repeat (first | refine blk_drewN ?_ _ | refine blk_drew ?_ | refine blk_alloc ?_ _)); refine blk_put (cs := #[.int .i64 0, .int .i64 0, .bool false]) ?_ 0 _ rfl; (with_reducible repeat (first | refine blk_drewN ?_ _ | refine blk_drew ?_ | refine blk_alloc ?_ _)); exact BK383.out⟩, ⟨by repeat (first | (with_reducible first | exact HB.out | apply below_alloc | apply pw_below_drewN | apply below_drew1 | refine below_set ?_ GE378.out | refine below_set ?_ GE379.out | refine below_set ?_ GE383.out) | exact HB.out)⟩⟩
              · rw [if_neg c37] at H
                have c37b0 : decide (1073741824 < a1_0) = false := decide_eq_false c37
                clear c37
                by_cases c43 : a1_1 < 1
                · rw [if_pos c43] at H
                  have c43b0 : decide (a1_1 < 1) = true := decide_eq_true c43
                  clear c43
                  have H' := Aside0.mk H
                  clear H
                  have hnb44 := NB378_379.out
                  have hnc44 := NB379_378.out
                  have hnb45 := NB378_383.out
                  have hnc45 := NB383_378.out
                  have hcz46_0 : w11.cell? ⟨gb378, 0, none⟩ = some (.int .i64 a0_0) := (blk_cell BK378.out 0).trans rfl
                  have hcz46_1 : w11.cell? ⟨gb378, 1, none⟩ = some (.int .i64 a0_1) := (blk_cell BK378.out 1).trans rfl
                  have hcz46_2 : w11.cell? ⟨gb378, 2, none⟩ = some (.bool a0_2) := (blk_cell BK378.out 2).trans rfl
                  have hfz46_0 := blk_frozen BK378.out 0
                  have hfz46_1 := blk_frozen BK378.out 1
                  have hfz46_2 := blk_frozen BK378.out 2
                  have hnb47 := NB379_383.out
                  have hnc47 := NB383_379.out
                  have hcz48_0 : w11.cell? ⟨gb379, 0, none⟩ = some (.int .i64 a1_0) := (blk_cell BK379.out 0).trans rfl
                  have hcz48_1 : w11.cell? ⟨gb379, 1, none⟩ = some (.int .i64 a1_1) := (blk_cell BK379.out 1).trans rfl
                  have hcz48_2 : w11.cell? ⟨gb379, 2, none⟩ = some (.bool a1_2) := (blk_cell BK379.out 2).trans rfl
                  have hfz48_0 := blk_frozen BK379.out 0
                  have hfz48_1 := blk_frozen BK379.out 1
                  have hfz48_2 := blk_frozen BK379.out 2
                  go_wp2
                  go_meet
                  case rel => exact ⟨_, (true), (by first | rfl | (simp; done) | (simp [*]; done)), H', ⟨by first | omega | exact Nat.le_refl _⟩, ⟨by (with_reducible repeat (first | refine blk_drewN ?_ _ | refine blk_drew ?_ | refine blk_alloc ?_ _)); refine blk_far ?_ NB378_383.out _; (with_reducible repeat (first | refine blk_drewN ?_ _ | refine blk_drew ?_ | refine blk_alloc ?_ _)); refine blk_far ?_ NB378_383.out _; (with_reducible repeat (first | refine blk_drewN ?_ _ | refine blk_drew ?_ | refine blk_alloc ?_ _)); refine blk_far ?_ NB378_383.out _; (with_reducible repeat (first | refine blk_drewN ?_ _ | refine blk_drew ?_ | refine blk_alloc ?_ _)); exact BK378.out⟩, ⟨by (with_reducible repeat (first | refine blk_drewN ?_ _ | refine blk_drew ?_ | refine blk_alloc ?_ _)); refine blk_far ?_ NB379_383.out _; (with_reducible repeat (first | refine blk_drewN ?_ _ | refine blk_drew ?_ | refine blk_alloc ?_ _)); refine blk_far ?_ NB379_383.out _; (with_reducible repeat (first | refine blk_drewN ?_ _ | refine blk_drew ?_ | refine blk_alloc ?_ _)); refine blk_far ?_ NB379_383.out _; (with_reducible repeat (first | refine blk_drewN ?_ _ | refine blk_drew ?_ | refine blk_alloc ?_ _)); exact BK379.out⟩, ⟨by (with_reducible repeat (first | refine blk_drewN ?_ _ | refine blk_drew ?_ | refine blk_alloc ?_ _)); refine blk_put (cs := #[.int .i64 t380, .int .i64 t381, .bool false]) ?_ 2 _ rfl; (with_reducible repeat (first | refine blk_drewN ?_ _ | refine blk_drew ?_ | refine blk_alloc ?_ _)); refine blk_put (cs := #[.int .i64 t380, .int .i64 0, .bool false]) ?_ 1 _ rfl; (with_reducible repeat (first | refine blk_drewN ?_ _ | refine blk_drew ?_ | refine blk_alloc ?_ _)); refine blk_put (cs := #[.int .i64 0, .int .i64 0, .bool false]) ?_ 0 _ rfl; (with_reducible repeat (first | refine blk_drewN ?_ _ | refine blk_drew ?_ | refine blk_alloc ?_ _)); exact BK383.out⟩, ⟨by repeat (first | (with_reducible first | exact HB.out | apply below_alloc | apply pw_below_drewN | apply below_drew1 | refine below_set ?_ GE378.out | refine below_set ?_ GE379.out | refine below_set ?_ GE383.out) | exact HB.out)⟩⟩
                · rw [if_neg c43] at H
                  have c43b0 : decide (a1_1 < 1) = false := decide_eq_false c43
                  clear c43
                  by_cases c49 : a1_1 > 1073741824
                  · rw [if_pos c49] at H
                    have c49b0 : decide (1073741824 < a1_1) = true := decide_eq_true c49
                    clear c49
                    have H' := Aside0.mk H
                    clear H
                    have hnb50 := NB378_379.out
                    have hnc50 := NB379_378.out
                    have hnb51 := NB378_383.out
                    have hnc51 := NB383_378.out
                    have hcz52_0 : w11.cell? ⟨gb378, 0, none⟩ = some (.int .i64 a0_0) := (blk_cell BK378.out 0).trans rfl
                    have hcz52_1 : w11.cell? ⟨gb378, 1, none⟩ = some (.int .i64 a0_1) := (blk_cell BK378.out 1).trans rfl
                    have hcz52_2 : w11.cell? ⟨gb378, 2, none⟩ = some (.bool a0_2) := (blk_cell BK378.out 2).trans rfl
                    have hfz52_0 := blk_frozen BK378.out 0
                    have hfz52_1 := blk_frozen BK378.out 1
                    have hfz52_2 := blk_frozen BK378.out 2
                    have hnb53 := NB379_383.out
                    have hnc53 := NB383_379.out
                    have hcz54_0 : w11.cell? ⟨gb379, 0, none⟩ = some (.int .i64 a1_0) := (blk_cell BK379.out 0).trans rfl
                    have hcz54_1 : w11.cell? ⟨gb379, 1, none⟩ = some (.int .i64 a1_1) := (blk_cell BK379.out 1).trans rfl
                    have hcz54_2 : w11.cell? ⟨gb379, 2, none⟩ = some (.bool a1_2) := (blk_cell BK379.out 2).trans rfl
                    have hfz54_0 := blk_frozen BK379.out 0
                    have hfz54_1 := blk_frozen BK379.out 1
                    have hfz54_2 := blk_frozen BK379.out 2
                    go_wp2
                    go_meet
                    case rel => exact ⟨_, (true), (by first | rfl | (simp; done) | (simp [*]; done)), H', ⟨by first | omega | exact Nat.le_refl _⟩, ⟨by (with_reducible repeat (first | refine blk_drewN ?_ _ | refine blk_drew ?_ | refine blk_alloc ?_ _)); refine blk_far ?_ NB378_383.out _; (with_reducible repeat (first | refine blk_drewN ?_ _ | refine blk_drew ?_ | refine blk_alloc ?_ _)); refine blk_far ?_ NB378_383.out _; (with_reducible repeat (first | refine blk_drewN ?_ _ | refine blk_drew ?_ | refine blk_alloc ?_ _)); refine blk_far ?_ NB378_383.out _; (with_reducible repeat (first | refine blk_drewN ?_ _ | refine blk_drew ?_ | refine blk_alloc ?_ _)); exact BK378.out⟩, ⟨by (with_reducible repeat (first | refine blk_drewN ?_ _ | refine blk_drew ?_ | refine blk_alloc ?_ _)); refine blk_far ?_ NB379_383.out _; (with_reducible repeat (first | refine blk_drewN ?_ _ | refine blk_drew ?_ | refine blk_alloc ?_ _)); refine blk_far ?_ NB379_383.out _; (with_reducible repeat (first | refine blk_drewN ?_ _ | refine blk_drew ?_ | refine blk_alloc ?_ _)); refine blk_far ?_ NB379_383.out _; (with_reducible repeat (first | refine blk_drewN ?_ _ | refine blk_drew ?_ | refine blk_alloc ?_ _)); exact BK379.out⟩, ⟨by (with_reducible repeat (first | refine blk_drewN ?_ _ | refine blk_drew ?_ | refine blk_alloc ?_ _)); refine blk_put (cs := #[.int .i64 t380, .int .i64 t381, .bool false]) ?_ 2 _ rfl; (with_reducible repeat (first | refine blk_drewN ?_ _ | refine blk_drew ?_ | refine blk_alloc ?_ _)); refine blk_put (cs := #[.int .i64 t380, .int .i64 0, .bool false]) ?_ 1 _ rfl; (with_reducible repeat (first | refine blk_drewN ?_ _ | refine blk_drew ?_ | refine blk_alloc ?_ _)); refine blk_put (cs := #[.int .i64 0, .int .i64 0, .bool false]) ?_ 0 _ rfl; (with_reducible repeat (first | refine blk_drewN ?_ _ | refine blk_drew ?_ | refine blk_alloc ?_ _)); exact BK383.out⟩, ⟨by repeat (first | (with_reducible first | exact HB.out | apply below_alloc | apply pw_below_drewN | apply below_drew1 | refine below_set ?_ GE378.out | refine below_set ?_ GE379.out | refine below_set ?_ GE383.out) | exact HB.out)⟩⟩
                  · rw [if_neg c49] at H
                    have c49b0 : decide (1073741824 < a1_1) = false := decide_eq_false c49
                    clear c49
                    replace H := Option.bind_eq_some_iff.mp H
                    obtain ⟨t384, A550, H⟩ := H
                    replace H : (if t384 = true then ((coupletlaw04_fine.f k a1_0 a1_1 a1_2).bind fun t385 => (if t385 = true then (coupletlaw04_FracQuotients.j0 k (a1_0 == 0) a0_0 a0_1 a0_2 a1_0 a1_1 a1_2 t380 t381 t382) else (coupletlaw04_FracQuotients.j0 k true a0_0 a0_1 a0_2 a1_0 a1_1 a1_2 t380 t381 t382))) else (coupletlaw04_FracQuotients.j0 k true a0_0 a0_1 a0_2 a1_0 a1_1 a1_2 t380 t381 t382)) = some r := H
                    have A55 := Aside0.mk A550
                    clear A550
                    by_cases c56 : t384 = true
                    · subst c56
                      have H1 : ((coupletlaw04_fine.f k a1_0 a1_1 a1_2).bind fun t385 => (if t385 = true then (coupletlaw04_FracQuotients.j0 k (a1_0 == 0) a0_0 a0_1 a0_2 a1_0 a1_1 a1_2 t380 t381 t382) else (coupletlaw04_FracQuotients.j0 k true a0_0 a0_1 a0_2 a1_0 a1_1 a1_2 t380 t381 t382))) = some r := by rw [if_pos rfl] at H; exact H
                      clear H
                      have H := H1
                      clear H1
                      replace H := Option.bind_eq_some_iff.mp H
                      obtain ⟨t385, A570, H⟩ := H
                      replace H : (if t385 = true then (coupletlaw04_FracQuotients.j0 k (a1_0 == 0) a0_0 a0_1 a0_2 a1_0 a1_1 a1_2 t380 t381 t382) else (coupletlaw04_FracQuotients.j0 k true a0_0 a0_1 a0_2 a1_0 a1_1 a1_2 t380 t381 t382)) = some r := H
                      have A57 := Aside0.mk A570
                      clear A570
                      by_cases c58 : t385 = true
                      · subst c58
                        have H1 : (coupletlaw04_FracQuotients.j0 k (a1_0 == 0) a0_0 a0_1 a0_2 a1_0 a1_1 a1_2 t380 t381 t382) = some r := by rw [if_pos rfl] at H; exact H
                        clear H
                        have H := H1
                        clear H1
                        have H' := Aside0.mk H
                        clear H
                        have hnb59 := NB378_379.out
                        have hnc59 := NB379_378.out
                        have hnb60 := NB378_383.out
                        have hnc60 := NB383_378.out
                        have hcz61_0 : w11.cell? ⟨gb378, 0, none⟩ = some (.int .i64 a0_0) := (blk_cell BK378.out 0).trans rfl
                        have hcz61_1 : w11.cell? ⟨gb378, 1, none⟩ = some (.int .i64 a0_1) := (blk_cell BK378.out 1).trans rfl
                        have hcz61_2 : w11.cell? ⟨gb378, 2, none⟩ = some (.bool a0_2) := (blk_cell BK378.out 2).trans rfl
                        have hfz61_0 := blk_frozen BK378.out 0
                        have hfz61_1 := blk_frozen BK378.out 1
                        have hfz61_2 := blk_frozen BK378.out 2
                        have hnb62 := NB379_383.out
                        have hnc62 := NB383_379.out
                        have hcz63_0 : w11.cell? ⟨gb379, 0, none⟩ = some (.int .i64 a1_0) := (blk_cell BK379.out 0).trans rfl
                        have hcz63_1 : w11.cell? ⟨gb379, 1, none⟩ = some (.int .i64 a1_1) := (blk_cell BK379.out 1).trans rfl
                        have hcz63_2 : w11.cell? ⟨gb379, 2, none⟩ = some (.bool a1_2) := (blk_cell BK379.out 2).trans rfl
                        have hfz63_0 := blk_frozen BK379.out 0
                        have hfz63_1 := blk_frozen BK379.out 1
                        have hfz63_2 := blk_frozen BK379.out 2
                        go_wp2_with (first | (go_at_call 13; (with_reducible refine (coupletlaw04_fine.calls k a0_0 a0_1 a0_2 true _ A55.out).mono ?_); rintro e w64 ⟨rfl, hb⟩; have n0_ := Aside0.mk (blk_below (g := gb378) (o := .cells #[.int .i64 a0_0, .int .i64 a0_1, .bool a0_2] 23 (0, 0)) (by (with_reducible repeat (first | refine blk_drewN ?_ _ | refine blk_drew ?_ | refine blk_alloc ?_ _)); refine blk_far ?_ NB378_383.out _; (with_reducible repeat (first | refine blk_drewN ?_ _ | refine blk_drew ?_ | refine blk_alloc ?_ _)); refine blk_far ?_ NB378_383.out _; (with_reducible repeat (first | refine blk_drewN ?_ _ | refine blk_drew ?_ | refine blk_alloc ?_ _)); refine blk_far ?_ NB378_383.out _; (with_reducible repeat (first | refine blk_drewN ?_ _ | refine blk_drew ?_ | refine blk_alloc ?_ _)); exact BK378.out) hb); have n1_ := Aside0.mk (blk_below (g := gb379) (o := .cells #[.int .i64 a1_0, .int .i64 a1_1, .bool a1_2] 23 (0, 0)) (by (with_reducible repeat (first | refine blk_drewN ?_ _ | refine blk_drew ?_ | refine blk_alloc ?_ _)); refine blk_far ?_ NB379_383.out _; (with_reducible repeat (first | refine blk_drewN ?_ _ | refine blk_drew ?_ | refine blk_alloc ?_ _)); refine blk_far ?_ NB379_383.out _; (with_reducible repeat (first | refine blk_drewN ?_ _ | refine blk_drew ?_ | refine blk_alloc ?_ _)); refine blk_far ?_ NB379_383.out _; (with_reducible repeat (first | refine blk_drewN ?_ _ | refine blk_drew ?_ | refine blk_alloc ?_ _)); exact BK379.out) hb); have n2_ := Aside0.mk (blk_below (g := gb383) (o := .cells #[.int .i64 t380, .int .i64 t381, .bool t382] 23 (0, 0)) (by (with_reducible repeat (first | refine blk_drewN ?_ _ | refine blk_drew ?_ | refine blk_alloc ?_ _)); refine blk_put (cs := #[.int .i64 t380, .int .i64 t381, .bool false]) ?_ 2 _ rfl; (with_reducible repeat (first | refine blk_drewN ?_ _ | refine blk_drew ?_ | refine blk_alloc ?_ _)); refine blk_put (cs := #[.int .i64 t380, .int .i64 0, .bool false]) ?_ 1 _ rfl; (with_reducible repeat (first | refine blk_drewN ?_ _ | refine blk_drew ?_ | refine blk_alloc ?_ _)); refine blk_put (cs := #[.int .i64 0, .int .i64 0, .bool false]) ?_ 0 _ rfl; (with_reducible repeat (first | refine blk_drewN ?_ _ | refine blk_drew ?_ | refine blk_alloc ?_ _)); exact BK383.out) hb); have n3_ := Aside0.mk (below_step (by repeat (first | (with_reducible first | exact HB.out | apply below_alloc | apply pw_below_drewN | apply below_drew1 | refine below_set ?_ GE378.out | refine below_set ?_ GE379.out | refine below_set ?_ GE383.out) | exact HB.out)) hb); clear BK378; clear BK379; clear BK383; clear HB; have BK378 := n0_; have BK379 := n1_; have BK383 := n2_; have HB := n3_; clear n0_ n1_ n2_ n3_; (try clear hb); (try clear hb2); (try clear hk); (try clear hi); have hcz65_0 : w64.cell? ⟨gb379, 0, none⟩ = some (.int .i64 a1_0) := (blk_cell BK379.out 0).trans rfl; have hcz65_1 : w64.cell? ⟨gb379, 1, none⟩ = some (.int .i64 a1_1) := (blk_cell BK379.out 1).trans rfl; have hcz65_2 : w64.cell? ⟨gb379, 2, none⟩ = some (.bool a1_2) := (blk_cell BK379.out 2).trans rfl; have hfz65_0 := blk_frozen BK379.out 0; have hfz65_1 := blk_frozen BK379.out 1; have hfz65_2 := blk_frozen BK379.out 2) | (go_at_call 13; (with_reducible refine (coupletlaw04_fine.calls k a1_0 a1_1 a1_2 true _ A57.out).mono ?_); rintro e w66 ⟨rfl, hb⟩; have n0_ := Aside0.mk (blk_below (g := gb378) (o := .cells #[.int .i64 a0_0, .int .i64 a0_1, .bool a0_2] 23 (0, 0)) (by (with_reducible repeat (first | refine blk_drewN ?_ _ | refine blk_drew ?_ | refine blk_alloc ?_ _)); exact BK378.out) hb); have n1_ := Aside0.mk (blk_below (g := gb379) (o := .cells #[.int .i64 a1_0, .int .i64 a1_1, .bool a1_2] 23 (0, 0)) (by (with_reducible repeat (first | refine blk_drewN ?_ _ | refine blk_drew ?_ | refine blk_alloc ?_ _)); exact BK379.out) hb); have n2_ := Aside0.mk (blk_below (g := gb383) (o := .cells #[.int .i64 t380, .int .i64 t381, .bool t382] 23 (0, 0)) (by (with_reducible repeat (first | refine blk_drewN ?_ _ | refine blk_drew ?_ | refine blk_alloc ?_ _)); exact BK383.out) hb); have n3_ := Aside0.mk (below_step (by repeat (first | (with_reducible first | exact HB.out | apply below_alloc | apply pw_below_drewN | apply below_drew1 | refine below_set ?_ GE378.out | refine below_set ?_ GE379.out | refine below_set ?_ GE383.out) | exact HB.out)) hb); clear BK378; clear BK379; clear BK383; clear HB; have BK378 := n0_; have BK379 := n1_; have BK383 := n2_; have HB := n3_; clear n0_ n1_ n2_ n3_; (try clear hb); (try clear hb2); (try clear hk); (try clear hi); have hcz67_0 : w66.cell? ⟨gb379, 0, none⟩ = some (.int .i64 a1_0) := (blk_cell BK379.out 0).trans rfl; have hcz67_1 : w66.cell? ⟨gb379, 1, none⟩ = some (.int .i64 a1_1) := (blk_cell BK379.out 1).trans rfl; have hcz67_2 : w66.cell? ⟨gb379, 2, none⟩ = some (.bool a1_2) := (blk_cell BK379.out 2).trans rfl; have hfz67_0 := blk_frozen BK379.out 0; have hfz67_1 := blk_frozen BK379.out 1; have hfz67_2 := blk_frozen BK379.out 2))
                        go_meet
                        case rel => exact ⟨_, ((a1_0 == 0)), (by first | rfl | (simp; done) | (simp [*]; done)), H', ⟨by first | omega | exact Nat.le_refl _⟩, ⟨by (with_reducible repeat (first | refine blk_drewN ?_ _ | refine blk_drew ?_ | refine blk_alloc ?_ _)); exact BK378.out⟩, ⟨by (with_reducible repeat (first | refine blk_drewN ?_ _ | refine blk_drew ?_ | refine blk_alloc ?_ _)); exact BK379.out⟩, ⟨by (with_reducible repeat (first | refine blk_drewN ?_ _ | refine blk_drew ?_ | refine blk_alloc ?_ _)); exact BK383.out⟩, ⟨by repeat (first | (with_reducible first | exact HB.out | apply below_alloc | apply pw_below_drewN | apply below_drew1 | refine below_set ?_ GE378.out | refine below_set ?_ GE379.out | refine below_set ?_ GE383.out) | exact HB.out)⟩⟩
                      · replace c58 := Bool.eq_false_iff.mpr c58
                        subst c58
                        have H1 : (coupletlaw04_FracQuotients.j0 k true a0_0 a0_1 a0_2 a1_0 a1_1 a1_2 t380 t381 t382) = some r := by rw [if_neg (show ¬ (false = true) by decide)] at H; exact H
                        clear H
                        have H := H1
                        clear H1
                        have H' := Aside0.mk H
                        clear H
                        have hnb68 := NB378_379.out
                        have hnc68 := NB379_378.out
                        have hnb69 := NB378_383.out
                        have hnc69 := NB383_378.out
                        have hcz70_0 : w11.cell? ⟨gb378, 0, none⟩ = some (.int .i64 a0_0) := (blk_cell BK378.out 0).trans rfl
                        have hcz70_1 : w11.cell? ⟨gb378, 1, none⟩ = some (.int .i64 a0_1) := (blk_cell BK378.out 1).trans rfl
                        have hcz70_2 : w11.cell? ⟨gb378, 2, none⟩ = some (.bool a0_2) := (blk_cell BK378.out 2).trans rfl
                        have hfz70_0 := blk_frozen BK378.out 0
                        have hfz70_1 := blk_frozen BK378.out 1
                        have hfz70_2 := blk_frozen BK378.out 2
                        have hnb71 := NB379_383.out
                        have hnc71 := NB383_379.out
                        have hcz72_0 : w11.cell? ⟨gb379, 0, none⟩ = some (.int .i64 a1_0) := (blk_cell BK379.out 0).trans rfl
                        have hcz72_1 : w11.cell? ⟨gb379, 1, none⟩ = some (.int .i64 a1_1) := (blk_cell BK379.out 1).trans rfl
                        have hcz72_2 : w11.cell? ⟨gb379, 2, none⟩ = some (.bool a1_2) := (blk_cell BK379.out 2).trans rfl
                        have hfz72_0 := blk_frozen BK379.out 0
                        have hfz72_1 := blk_frozen BK379.out 1
                        have hfz72_2 := blk_frozen BK379.out 2
                        go_wp2_with (first | (go_at_call 13; (with_reducible refine (coupletlaw04_fine.calls k a0_0 a0_1 a0_2 true _ A55.out).mono ?_); rintro e w73 ⟨rfl, hb⟩; have n0_ := Aside0.mk (blk_below (g := gb378) (o := .cells #[.int .i64 a0_0, .int .i64 a0_1, .bool a0_2] 23 (0, 0)) (by (with_reducible repeat (first | refine blk_drewN ?_ _ | refine blk_drew ?_ | refine blk_alloc ?_ _)); refine blk_far ?_ NB378_383.out _; (with_reducible repeat (first | refine blk_drewN ?_ _ | refine blk_drew ?_ | refine blk_alloc ?_ _)); refine blk_far ?_ NB378_383.out _; (with_reducible repeat (first | refine blk_drewN ?_ _ | refine blk_drew ?_ | refine blk_alloc ?_ _)); refine blk_far ?_ NB378_383.out _; (with_reducible repeat (first | refine blk_drewN ?_ _ | refine blk_drew ?_ | refine blk_alloc ?_ _)); exact BK378.out) hb); have n1_ := Aside0.mk (blk_below (g := gb379) (o := .cells #[.int .i64 a1_0, .int .i64 a1_1, .bool a1_2] 23 (0, 0)) (by (with_reducible repeat (first | refine blk_drewN ?_ _ | refine blk_drew ?_ | refine blk_alloc ?_ _)); refine blk_far ?_ NB379_383.out _; (with_reducible repeat (first | refine blk_drewN ?_ _ | refine blk_drew ?_ | refine blk_alloc ?_ _)); refine blk_far ?_ NB379_383.out _; (with_reducible repeat (first | refine blk_drewN ?_ _ | refine blk_drew ?_ | refine blk_alloc ?_ _)); refine blk_far ?_ NB379_383.out _; (with_reducible repeat (first | refine blk_drewN ?_ _ | refine blk_drew ?_ | refine blk_alloc ?_ _)); exact BK379.out) hb); have n2_ := Aside0.mk (blk_below (g := gb383) (o := .cells #[.int .i64 t380, .int .i64 t381, .bool t382] 23 (0, 0)) (by (with_reducible repeat (first | refine blk_drewN ?_ _ | refine blk_drew ?_ | refine blk_alloc ?_ _)); refine blk_put (cs := #[.int .i64 t380, .int .i64 t381, .bool false]) ?_ 2 _ rfl; (with_reducible repeat (first | refine blk_drewN ?_ _ | refine blk_drew ?_ | refine blk_alloc ?_ _)); refine blk_put (cs := #[.int .i64 t380, .int .i64 0, .bool false]) ?_ 1 _ rfl; (with_reducible repeat (first | refine blk_drewN ?_ _ | refine blk_drew ?_ | refine blk_alloc ?_ _)); refine blk_put (cs := #[.int .i64 0, .int .i64 0, .bool false]) ?_ 0 _ rfl; (with_reducible repeat (first | refine blk_drewN ?_ _ | refine blk_drew ?_ | refine blk_alloc ?_ _)); exact BK383.out) hb); have n3_ := Aside0.mk (below_step (by repeat (first | (with_reducible first | exact HB.out | apply below_alloc | apply pw_below_drewN | apply below_drew1 | refine below_set ?_ GE378.out | refine below_set ?_ GE379.out | refine below_set ?_ GE383.out) | exact HB.out)) hb); clear BK378; clear BK379; clear BK383; clear HB; have BK378 := n0_; have BK379 := n1_; have BK383 := n2_; have HB := n3_; clear n0_ n1_ n2_ n3_; (try clear hb); (try clear hb2); (try clear hk); (try clear hi); have hcz74_0 : w73.cell? ⟨gb379, 0, none⟩ = some (.int .i64 a1_0) := (blk_cell BK379.out 0).trans rfl; have hcz74_1 : w73.cell? ⟨gb379, 1, none⟩ = some (.int .i64 a1_1) := (blk_cell BK379.out 1).trans rfl; have hcz74_2 : w73.cell? ⟨gb379, 2, none⟩ = some (.bool a1_2) := (blk_cell BK379.out 2).trans rfl; have hfz74_0 := blk_frozen BK379.out 0; have hfz74_1 := blk_frozen BK379.out 1; have hfz74_2 := blk_frozen BK379.out 2) | (go_at_call 13; (with_reducible refine (coupletlaw04_fine.calls k a1_0 a1_1 a1_2 false _ A57.out).mono ?_); rintro e w75 ⟨rfl, hb⟩; have n0_ := Aside0.mk (blk_below (g := gb378) (o := .cells #[.int .i64 a0_0, .int .i64 a0_1, .bool a0_2] 23 (0, 0)) (by (with_reducible repeat (first | refine blk_drewN ?_ _ | refine blk_drew ?_ | refine blk_alloc ?_ _)); exact BK378.out) hb); have n1_ := Aside0.mk (blk_below (g := gb379) (o := .cells #[.int .i64 a1_0, .int .i64 a1_1, .bool a1_2] 23 (0, 0)) (by (with_reducible repeat (first | refine blk_drewN ?_ _ | refine blk_drew ?_ | refine blk_alloc ?_ _)); exact BK379.out) hb); have n2_ := Aside0.mk (blk_below (g := gb383) (o := .cells #[.int .i64 t380, .int .i64 t381, .bool t382] 23 (0, 0)) (by (with_reducible repeat (first | refine blk_drewN ?_ _ | refine blk_drew ?_ | refine blk_alloc ?_ _)); exact BK383.out) hb); have n3_ := Aside0.mk (below_step (by repeat (first | (with_reducible first | exact HB.out | apply below_alloc | apply pw_below_drewN | apply below_drew1 | refine below_set ?_ GE378.out | refine below_set ?_ GE379.out | refine below_set ?_ GE383.out) | exact HB.out)) hb); clear BK378; clear BK379; clear BK383; clear HB; have BK378 := n0_; have BK379 := n1_; have BK383 := n2_; have HB := n3_; clear n0_ n1_ n2_ n3_; (try clear hb); (try clear hb2); (try clear hk); (try clear hi)))
                        go_meet
                        case rel => exact ⟨_, (true), (by first | rfl | (simp; done) | (simp [*]; done)), H', ⟨by first | omega | exact Nat.le_refl _⟩, ⟨by (with_reducible repeat (first | refine blk_drewN ?_ _ | refine blk_drew ?_ | refine blk_alloc ?_ _)); exact BK378.out⟩, ⟨by (with_reducible repeat (first | refine blk_drewN ?_ _ | refine blk_drew ?_ | refine blk_alloc ?_ _)); exact BK379.out⟩, ⟨by (with_reducible repeat (first | refine blk_drewN ?_ _ | refine blk_drew ?_ | refine blk_alloc ?_ _)); exact BK383.out⟩, ⟨by repeat (first | (with_reducible first | exact HB.out | apply below_alloc | apply pw_below_drewN | apply below_drew1 | refine below_set ?_ GE378.out | refine below_set ?_ GE379.out | refine below_set ?_ GE383.out) | exact HB.out)⟩⟩
                    · replace c56 := Bool.eq_false_iff.mpr c56
                      subst c56
                      have H1 : (coupletlaw04_FracQuotients.j0 k true a0_0 a0_1 a0_2 a1_0 a1_1 a1_2 t380 t381 t382) = some r := by rw [if_neg (show ¬ (false = true) by decide)] at H; exact H
                      clear H
                      have H := H1
                      clear H1
                      have H' := Aside0.mk H
                      clear H
                      have hnb76 := NB378_379.out
                      have hnc76 := NB379_378.out
                      have hnb77 := NB378_383.out
                      have hnc77 := NB383_378.out
                      have hcz78_0 : w11.cell? ⟨gb378, 0, none⟩ = some (.int .i64 a0_0) := (blk_cell BK378.out 0).trans rfl
                      have hcz78_1 : w11.cell? ⟨gb378, 1, none⟩ = some (.int .i64 a0_1) := (blk_cell BK378.out 1).trans rfl
                      have hcz78_2 : w11.cell? ⟨gb378, 2, none⟩ = some (.bool a0_2) := (blk_cell BK378.out 2).trans rfl
                      have hfz78_0 := blk_frozen BK378.out 0
                      have hfz78_1 := blk_frozen BK378.out 1
                      have hfz78_2 := blk_frozen BK378.out 2
                      have hnb79 := NB379_383.out
                      have hnc79 := NB383_379.out
                      have hcz80_0 : w11.cell? ⟨gb379, 0, none⟩ = some (.int .i64 a1_0) := (blk_cell BK379.out 0).trans rfl
                      have hcz80_1 : w11.cell? ⟨gb379, 1, none⟩ = some (.int .i64 a1_1) := (blk_cell BK379.out 1).trans rfl
                      have hcz80_2 : w11.cell? ⟨gb379, 2, none⟩ = some (.bool a1_2) := (blk_cell BK379.out 2).trans rfl
                      have hfz80_0 := blk_frozen BK379.out 0
                      have hfz80_1 := blk_frozen BK379.out 1
                      have hfz80_2 := blk_frozen BK379.out 2
                      go_wp2_with (first | (go_at_call 13; (with_reducible refine (coupletlaw04_fine.calls k a0_0 a0_1 a0_2 false _ A55.out).mono ?_); rintro e w81 ⟨rfl, hb⟩; have n0_ := Aside0.mk (blk_below (g := gb378) (o := .cells #[.int .i64 a0_0, .int .i64 a0_1, .bool a0_2] 23 (0, 0)) (by (with_reducible repeat (first | refine blk_drewN ?_ _ | refine blk_drew ?_ | refine blk_alloc ?_ _)); refine blk_far ?_ NB378_383.out _; (with_reducible repeat (first | refine blk_drewN ?_ _ | refine blk_drew ?_ | refine blk_alloc ?_ _)); refine blk_far ?_ NB378_383.out _; (with_reducible repeat (first | refine blk_drewN ?_ _ | refine blk_drew ?_ | refine blk_alloc ?_ _)); refine blk_far ?_ NB378_383.out _; (with_reducible repeat (first | refine blk_drewN ?_ _ | refine blk_drew ?_ | refine blk_alloc ?_ _)); exact BK378.out) hb); have n1_ := Aside0.mk (blk_below (g := gb379) (o := .cells #[.int .i64 a1_0, .int .i64 a1_1, .bool a1_2] 23 (0, 0)) (by (with_reducible repeat (first | refine blk_drewN ?_ _ | refine blk_drew ?_ | refine blk_alloc ?_ _)); refine blk_far ?_ NB379_383.out _; (with_reducible repeat (first | refine blk_drewN ?_ _ | refine blk_drew ?_ | refine blk_alloc ?_ _)); refine blk_far ?_ NB379_383.out _; (with_reducible repeat (first | refine blk_drewN ?_ _ | refine blk_drew ?_ | refine blk_alloc ?_ _)); refine blk_far ?_ NB379_383.out _; (with_reducible repeat (first | refine blk_drewN ?_ _ | refine blk_drew ?_ | refine blk_alloc ?_ _)); exact BK379.out) hb); have n2_ := Aside0.mk (blk_below (g := gb383) (o := .cells #[.int .i64 t380, .int .i64 t381, .bool t382] 23 (0, 0)) (by (with_reducible repeat (first | refine blk_drewN ?_ _ | refine blk_drew ?_ | refine blk_alloc ?_ _)); refine blk_put (cs := #[.int .i64 t380, .int .i64 t381, .bool false]) ?_ 2 _ rfl; (with_reducible repeat (first | refine blk_drewN ?_ _ | refine blk_drew ?_ | refine blk_alloc ?_ _)); refine blk_put (cs := #[.int .i64 t380, .int .i64 0, .bool false]) ?_ 1 _ rfl; (with_reducible repeat (first | refine blk_drewN ?_ _ | refine blk_drew ?_ | refine blk_alloc ?_ _)); refine blk_put (cs := #[.int .i64 0, .int .i64 0, .bool false]) ?_ 0 _ rfl; (with_reducible repeat (first | refine blk_drewN ?_ _ | refine blk_drew ?_ | refine blk_alloc ?_ _)); exact BK383.out) hb); have n3_ := Aside0.mk (below_step (by repeat (first | (with_reducible first | exact HB.out | apply below_alloc | apply pw_below_drewN | apply below_drew1 | refine below_set ?_ GE378.out | refine below_set ?_ GE379.out | refine below_set ?_ GE383.out) | exact HB.out)) hb); clear BK378; clear BK379; clear BK383; clear HB; have BK378 := n0_; have BK379 := n1_; have BK383 := n2_; have HB := n3_; clear n0_ n1_ n2_ n3_; (try clear hb); (try clear hb2); (try clear hk); (try clear hi)))
                      go_meet
                      case rel => exact ⟨_, (true), (by first | rfl | (simp; done) | (simp [*]; done)), H', ⟨by first | omega | exact Nat.le_refl _⟩, ⟨by (with_reducible repeat (first | refine blk_drewN ?_ _ | refine blk_drew ?_ | refine blk_alloc ?_ _)); exact BK378.out⟩, ⟨by (with_reducible repeat (first | refine blk_drewN ?_ _ | refine blk_drew ?_ | refine blk_alloc ?_ _)); exact BK379.out⟩, ⟨by (with_reducible repeat (first | refine blk_drewN ?_ _ | refine blk_drew ?_ | refine blk_alloc ?_ _)); exact BK383.out⟩, ⟨by repeat (first | (with_reducible first | exact HB.out | apply below_alloc | apply pw_below_drewN | apply below_drew1 | refine below_set ?_ GE378.out | refine below_set ?_ GE379.out | refine below_set ?_ GE383.out) | exact HB.out)⟩⟩
  case rest =>
    clear HC4
    try clear c1
    try clear c2
    try clear p2
    try clear c3
    try clear c4
    try clear c5
    try clear c6
    try clear c7
    try clear c12
    try clear c13
    try clear c15
    try clear c15b0
    try clear c16
    try clear c17
    try clear c19
    try clear c19b0
    try clear c20
    try clear c21
    try clear c23
    try clear c23b0
    try clear c24
    try clear c25
    try clear c27
    try clear c27b0
    try clear c28
    try clear c29
    try clear c31
    try clear c31b0
    try clear c32
    try clear c33
    try clear c35
    try clear c37
    try clear c37b0
    try clear c38
    try clear c39
    try clear c41
    try clear c43
    try clear c43b0
    try clear c44
    try clear c45
    try clear c47
    try clear c49
    try clear c49b0
    try clear c50
    try clear c51
    try clear c53
    try clear c56
    try clear c58
    try clear c59
    try clear c60
    try clear c62
    try clear c68
    try clear c69
    try clear c71
    try clear c76
    try clear c77
    try clear c79
    try clear hcz14_0
    try clear hcz14_1
    try clear hcz14_2
    try clear hcz18_0
    try clear hcz18_1
    try clear hcz18_2
    try clear hcz22_0
    try clear hcz22_1
    try clear hcz22_2
    try clear hcz26_0
    try clear hcz26_1
    try clear hcz26_2
    try clear hcz30_0
    try clear hcz30_1
    try clear hcz30_2
    try clear hcz34_0
    try clear hcz34_1
    try clear hcz34_2
    try clear hcz36_0
    try clear hcz36_1
    try clear hcz36_2
    try clear hcz40_0
    try clear hcz40_1
    try clear hcz40_2
    try clear hcz42_0
    try clear hcz42_1
    try clear hcz42_2
    try clear hcz46_0
    try clear hcz46_1
    try clear hcz46_2
    try clear hcz48_0
    try clear hcz48_1
    try clear hcz48_2
    try clear hcz52_0
    try clear hcz52_1
    try clear hcz52_2
    try clear hcz54_0
    try clear hcz54_1
    try clear hcz54_2
    try clear hcz61_0
    try clear hcz61_1
    try clear hcz61_2
    try clear hcz63_0
    try clear hcz63_1
    try clear hcz63_2
    try clear hcz65_0
    try clear hcz65_1
    try clear hcz65_2
    try clear hcz67_0
    try clear hcz67_1
    try clear hcz67_2
    try clear hcz70_0
    try clear hcz70_1
    try clear hcz70_2
    try clear hcz72_0
    try clear hcz72_1
    try clear hcz72_2
    try clear hcz74_0
    try clear hcz74_1
    try clear hcz74_2
    try clear hcz78_0
    try clear hcz78_1
    try clear hcz78_2
    try clear hcz80_0
    try clear hcz80_1
    try clear hcz80_2
    try clear hcz8_0
    try clear hcz8_1
    try clear hcz8_2
    try clear hcz9_0
    try clear hcz9_1
    try clear hcz9_2
    try clear hfz14_0
    try clear hfz14_1
    try clear hfz14_2
    try clear hfz18_0
    try clear hfz18_1
    try clear hfz18_2
    try clear hfz22_0
    try clear hfz22_1
    try clear hfz22_2
    try clear hfz26_0
    try clear hfz26_1
    try clear hfz26_2
    try clear hfz30_0
    try clear hfz30_1
    try clear hfz30_2
    try clear hfz34_0
    try clear hfz34_1
    try clear hfz34_2
    try clear hfz36_0
    try clear hfz36_1
    try clear hfz36_2
    try clear hfz40_0
    try clear hfz40_1
    try clear hfz40_2
    try clear hfz42_0
    try clear hfz42_1
    try clear hfz42_2
    try clear hfz46_0
    try clear hfz46_1
    try clear hfz46_2
    try clear hfz48_0
    try clear hfz48_1
    try clear hfz48_2
    try clear hfz52_0
    try clear hfz52_1
    try clear hfz52_2
    try clear hfz54_0
    try clear hfz54_1
    try clear hfz54_2
    try clear hfz61_0
    try clear hfz61_1
    try clear hfz61_2
    try clear hfz63_0
    try clear hfz63_1
    try clear hfz63_2
    try clear hfz65_0
    try clear hfz65_1
    try clear hfz65_2
    try clear hfz67_0
    try clear hfz67_1
    try clear hfz67_2
    try clear hfz70_0
    try clear hfz70_1
    try clear hfz70_2
    try clear hfz72_0
    try clear hfz72_1
    try clear hfz72_2
    try clear hfz74_0
    try clear hfz74_1
    try clear hfz74_2
    try clear hfz78_0
    try clear hfz78_1
    try clear hfz78_2
    try clear hfz80_0
    try clear hfz80_1
    try clear hfz80_2
    try clear hfz8_0
    try clear hfz8_1
    try clear hfz8_2
    try clear hfz9_0
    try clear hfz9_1
    try clear hfz9_2
    obtain ⟨kq, x64_3, rfl, HA, HJ3, BK378, BK379, BK383, HB⟩ := hcut
    cases kq with
    | zero => exact absurd HA.out (by simp [coupletlaw04_FracQuotients.j0])
    | succ kj3 =>
      have H := HA.out
      clear HA
      simp only [coupletlaw04_FracQuotients.j0] at H
      by_cases c82 : x64_3 = true
      · subst c82
        have H1 : (if t382 = true then ((coupletlaw04_awake.f kj3).bind fun t386 => (some t386)) else (some false)) = some r := by rw [if_pos rfl] at H; exact H
        clear H
        have H := H1
        clear H1
        by_cases c83 : t382 = true
        · subst c83
          have H1 : ((coupletlaw04_awake.f kj3).bind fun t386 => (some t386)) = some r := by rw [if_pos rfl] at H; exact H
          clear H
          have H := H1
          clear H1
          replace H := Option.bind_eq_some_iff.mp H
          obtain ⟨t386, A840, H⟩ := H
          replace H : (some t386) = some r := H
          have A84 := Aside0.mk A840
          clear A840
          obtain rfl := Option.some.inj H
          have hnb85 := NB383_378.out
          have hnc85 := NB378_383.out
          have hnb86 := NB383_379.out
          have hnc86 := NB379_383.out
          have hcz87_0 : wc.cell? ⟨gb383, 0, none⟩ = some (.int .i64 t380) := (blk_cell BK383.out 0).trans rfl
          have hcz87_1 : wc.cell? ⟨gb383, 1, none⟩ = some (.int .i64 t381) := (blk_cell BK383.out 1).trans rfl
          have hcz87_2 : wc.cell? ⟨gb383, 2, none⟩ = some (.bool true) := (blk_cell BK383.out 2).trans rfl
          have hfz87_0 := blk_frozen BK383.out 0
          have hfz87_1 := blk_frozen BK383.out 1
          have hfz87_2 := blk_frozen BK383.out 2
          go_wp2_with (first | (go_at_call 12; (with_reducible refine (coupletlaw04_awake.calls kj3  t386 _ A84.out).mono ?_); rintro e w88 ⟨rfl, hb⟩; have n0_ := Aside0.mk (blk_below (g := gb378) (o := .cells #[.int .i64 a0_0, .int .i64 a0_1, .bool a0_2] 23 (0, 0)) (by (with_reducible repeat (first | refine blk_drewN ?_ _ | refine blk_drew ?_ | refine blk_alloc ?_ _)); exact BK378.out) hb); have n1_ := Aside0.mk (blk_below (g := gb379) (o := .cells #[.int .i64 a1_0, .int .i64 a1_1, .bool a1_2] 23 (0, 0)) (by (with_reducible repeat (first | refine blk_drewN ?_ _ | refine blk_drew ?_ | refine blk_alloc ?_ _)); exact BK379.out) hb); have n2_ := Aside0.mk (blk_below (g := gb383) (o := .cells #[.int .i64 t380, .int .i64 t381, .bool true] 23 (0, 0)) (by (with_reducible repeat (first | refine blk_drewN ?_ _ | refine blk_drew ?_ | refine blk_alloc ?_ _)); exact BK383.out) hb); have n3_ := Aside0.mk (below_step (by repeat (first | (with_reducible first | exact HB.out | apply below_alloc | apply pw_below_drewN | apply below_drew1 | refine below_set ?_ GE378.out | refine below_set ?_ GE379.out | refine below_set ?_ GE383.out) | exact HB.out)) hb); clear BK378; clear BK379; clear BK383; clear HB; have BK378 := n0_; have BK379 := n1_; have BK383 := n2_; have HB := n3_; clear n0_ n1_ n2_ n3_; (try clear hb); (try clear hb2); (try clear hk); (try clear hi)))
          go_ret
          exact ⟨by first | rfl | (simp [errW_none, errW_some] <;> rfl) | (simp [*, errW_none, errW_some] <;> rfl), by repeat (first | (with_reducible first | exact HB.out | apply below_alloc | apply pw_below_drewN | apply below_drew1 | refine below_set ?_ GE378.out | refine below_set ?_ GE379.out | refine below_set ?_ GE383.out) | exact HB.out)⟩
        · replace c83 := Bool.eq_false_iff.mpr c83
          subst c83
          have H1 : (some false) = some r := by rw [if_neg (show ¬ (false = true) by decide)] at H; exact H
          clear H
          have H := H1
          clear H1
          obtain rfl := Option.some.inj H
          exact absurd hr (by decide)
      · replace c82 := Bool.eq_false_iff.mpr c82
        subst c82
        have H1 : (if (wrap64 (a0_1 * a1_0)) < 0 then (coupletlaw04_FracQuotients.j1 kj3 (wrap64 (-(wrap64 (a0_0 * a1_1)))) (wrap64 (-(wrap64 (a0_1 * a1_0)))) a0_0 a0_1 a0_2 t380 t381 t382) else (coupletlaw04_FracQuotients.j1 kj3 (wrap64 (a0_0 * a1_1)) (wrap64 (a0_1 * a1_0)) a0_0 a0_1 a0_2 t380 t381 t382)) = some r := by rw [if_neg (show ¬ (false = true) by decide)] at H; exact H
        clear H
        have H := H1
        clear H1
        have HC92 := Aside0.mk H
        clear H
        try go_wp2
        have n0_ := Aside0.mk (blk_drew BK378.out)
        have n1_ := Aside0.mk (blk_drew BK379.out)
        have n2_ := Aside0.mk (blk_drew BK383.out)
        have n3_ := Aside0.mk (below_drew1 HB.out)
        clear BK378
        clear BK379
        clear BK383
        clear HB
        have BK378 := n0_
        have BK379 := n1_
        have BK383 := n2_
        have HB := n3_
        clear n0_ n1_ n2_ n3_
        refine start_ (n := 12) (S := fun w' => w'.cell? ⟨gb378, 0, none⟩ = some (.int .i64 a0_0) ∧ w'.cell? ⟨gb378, 1, none⟩ = some (.int .i64 a0_1) ∧ w'.cell? ⟨gb378, 2, none⟩ = some (.bool a0_2) ∧ w'.cell? ⟨gb379, 0, none⟩ = some (.int .i64 a1_0) ∧ w'.cell? ⟨gb379, 1, none⟩ = some (.int .i64 a1_1) ∧ w'.cell? ⟨gb379, 2, none⟩ = some (.bool a1_2)) (ds := []) #[false, false, false, false, false, false, false, false, false, false, false, false] (by kernel_rfl) rfl rfl ⟨(blk_cell BK378.out 0).trans rfl, (blk_cell BK378.out 1).trans rfl, (blk_cell BK378.out 2).trans rfl, (blk_cell BK379.out 0).trans rfl, (blk_cell BK379.out 1).trans rfl, (blk_cell BK379.out 2).trans rfl⟩ (fun hHeld => ?_); refine with_tabW coupletlaw04_FracQuotients.tab4 coupletlaw04_FracQuotients.bits4 (fun HT_ HW_ => ?_)
        generalize wc.drew = w93 at BK378 BK379 BK383 HB hHeld ⊢
        refine pure_ (i := 0) (N := some 70) (v := ?_) (a' := ?_) #[true, false, false, false, false, false, false, false, false, false, false, false] rfl rfl (any_of HT_.out (by kernel_rfl)) (fun _ _ _ h => h) (Or.inl ⟨by rfl, ?_⟩) ?_ ?_
        rotate_left
        · intro w'
          go_simp
          with_reducible rfl
        rotate_left
        · simp only [Act.put, List.setIfInBounds_toArray, List.set_cons_zero, List.set_cons_succ, i64_w, i32_w]
          rfl
        refine pure_ (i := 2) (N := some 72) (v := ?_) (a' := ?_) #[true, false, true, false, false, false, false, false, false, false, false, false] rfl rfl (any_of HT_.out (by kernel_rfl)) (fun _ _ _ h => h) (Or.inl ⟨by rfl, ?_⟩) ?_ ?_
        rotate_left
        · intro w'
          go_simp
          with_reducible rfl
        rotate_left
        · simp only [Act.put, List.setIfInBounds_toArray, List.set_cons_zero, List.set_cons_succ, i64_w, i32_w]
          rfl
        refine pure_ (i := 5) (N := some 75) (v := ?_) (a' := ?_) #[true, false, true, false, false, true, false, false, false, false, false, false] rfl rfl (any_of HT_.out (by kernel_rfl)) (fun _ _ _ h => h) (Or.inl ⟨by rfl, ?_⟩) ?_ ?_
        rotate_left
        · intro w'
          go_simp
          with_reducible rfl
        rotate_left
        · simp only [Act.put, List.setIfInBounds_toArray, List.set_cons_zero, List.set_cons_succ, i64_w, i32_w]
          rfl
        refine pure_ (i := 7) (N := some 77) (v := ?_) (a' := ?_) #[true, false, true, false, false, true, false, true, false, false, false, false] rfl rfl (any_of HT_.out (by kernel_rfl)) (fun _ _ _ h => h) (Or.inl ⟨by rfl, ?_⟩) ?_ ?_
        rotate_left
        · intro w'
          go_simp
          with_reducible rfl
        rotate_left
        · simp only [Act.put, List.setIfInBounds_toArray, List.set_cons_zero, List.set_cons_succ, i64_w, i32_w]
          rfl
        refine take_ (i := 1) (N := some 71) (v := ?_) (a' := ?_) #[true, true, true, false, false, true, false, true, false, false, false, false] rfl rfl (take_ofW HT_.out HW_.out (by kernel_rfl)) (fun _ _ _ h => h) (Or.inl ⟨by rfl, ?_⟩) hHeld ?_ ?_
        rotate_left
        · rintro w' ⟨s0, s1, s2, s3, s4, s5⟩
          go_simp
          with_reducible rfl
        rotate_left
        · simp only [Act.put, List.setIfInBounds_toArray, List.set_cons_zero, List.set_cons_succ, i64_w, i32_w]
          rfl
        refine take_ (i := 3) (N := some 73) (v := ?_) (a' := ?_) #[true, true, true, true, false, true, false, true, false, false, false, false] rfl rfl (take_ofW HT_.out HW_.out (by kernel_rfl)) (fun _ _ _ h => h) (Or.inl ⟨by rfl, ?_⟩) hHeld ?_ ?_
        rotate_left
        · rintro w' ⟨s0, s1, s2, s3, s4, s5⟩
          go_simp
          with_reducible rfl
        rotate_left
        · simp only [Act.put, List.setIfInBounds_toArray, List.set_cons_zero, List.set_cons_succ, i64_w, i32_w]
          rfl
        refine pure_ (i := 4) (N := some 74) (v := ?_) (a' := ?_) #[true, true, true, true, true, true, false, true, false, false, false, false] rfl rfl (any_of HT_.out (by kernel_rfl)) (fun _ _ _ h => h) (Or.inl ⟨by rfl, ?_⟩) ?_ ?_
        rotate_left
        · intro w'
          go_simp
          with_reducible rfl
        rotate_left
        · simp only [Act.put, List.setIfInBounds_toArray, List.set_cons_zero, List.set_cons_succ, i64_w, i32_w]
          rfl
        refine pure_ (i := 10) (N := some 6) (v := ?_) (a' := ?_) #[true, true, true, true, true, true, false, true, false, false, true, false] rfl rfl (any_of HT_.out (by kernel_rfl)) (fun _ _ _ h => h) (Or.inl ⟨by rfl, ?_⟩) ?_ ?_
        rotate_left
        · intro w'
          go_simp
          with_reducible rfl
        rotate_left
        · simp only [Act.put, List.setIfInBounds_toArray, List.set_cons_zero, List.set_cons_succ, i64_w, i32_w]
          rfl
        refine take_ (i := 6) (N := some 76) (v := ?_) (a' := ?_) #[true, true, true, true, true, true, true, true, false, false, true, false] rfl rfl (take_ofW HT_.out HW_.out (by kernel_rfl)) (fun _ _ _ h => h) (Or.inl ⟨by rfl, ?_⟩) hHeld ?_ ?_
        rotate_left
        · rintro w' ⟨s0, s1, s2, s3, s4, s5⟩
          go_simp
          with_reducible rfl
        rotate_left
        · simp only [Act.put, List.setIfInBounds_toArray, List.set_cons_zero, List.set_cons_succ, i64_w, i32_w]
          rfl
        refine take_ (i := 8) (N := some 78) (v := ?_) (a' := ?_) #[true, true, true, true, true, true, true, true, true, false, true, false] rfl rfl (take_ofW HT_.out HW_.out (by kernel_rfl)) (fun _ _ _ h => h) (Or.inl ⟨by rfl, ?_⟩) hHeld ?_ ?_
        rotate_left
        · rintro w' ⟨s0, s1, s2, s3, s4, s5⟩
          go_simp
          with_reducible rfl
        rotate_left
        · simp only [Act.put, List.setIfInBounds_toArray, List.set_cons_zero, List.set_cons_succ, i64_w, i32_w]
          rfl
        refine pure_ (i := 9) (N := some 79) (v := ?_) (a' := ?_) #[true, true, true, true, true, true, true, true, true, true, true, false] rfl rfl (any_of HT_.out (by kernel_rfl)) (fun _ _ _ h => h) (Or.inl ⟨by rfl, ?_⟩) ?_ ?_
        rotate_left
        · intro w'
          go_simp
          with_reducible rfl
        rotate_left
        · simp only [Act.put, List.setIfInBounds_toArray, List.set_cons_zero, List.set_cons_succ, i64_w, i32_w]
          rfl
        refine pure_ (i := 11) (N := some 7) (v := ?_) (a' := ?_) #[true, true, true, true, true, true, true, true, true, true, true, true] rfl rfl (any_of HT_.out (by kernel_rfl)) (fun _ _ _ h => h) (Or.inl ⟨by rfl, ?_⟩) ?_ ?_
        rotate_left
        · intro w'
          go_simp
          with_reducible rfl
        rotate_left
        · simp only [Act.put, List.setIfInBounds_toArray, List.set_cons_zero, List.set_cons_succ, i64_w, i32_w]
          rfl
        refine done_ (done_of HT_.out (by kernel_rfl)) ?_
        go_upto_if 81 with (fail)
        go_cut [6, 7] (fun v6 v7 wc => ∃ (kq : Nat) (x6_91 : Int) (x7_91 : Int), v6 = .int .i64 x6_91 ∧ v7 = .int .i64 x7_91 ∧ Aside0 (coupletlaw04_FracQuotients.j1 kq x6_91 x7_91 a0_0 a0_1 a0_2 t380 t381 t382 = some r) ∧ Aside0 (kq ≤ kj3) ∧ Aside0 (wc.heap[gb378]? = some (.cells #[.int .i64 a0_0, .int .i64 a0_1, .bool a0_2] 23 (0, 0))) ∧ Aside0 (wc.heap[gb379]? = some (.cells #[.int .i64 a1_0, .int .i64 a1_1, .bool a1_2] 23 (0, 0))) ∧ Aside0 (wc.heap[gb383]? = some (.cells #[.int .i64 t380, .int .i64 t381, .bool t382] 23 (0, 0))) ∧ Aside0 (Below w.heap.size w wc))
        case first =>
          have H := HC92.out
          clear HC92
          by_cases c94 : (wrap64 (a0_1 * a1_0)) < 0
          · rw [if_pos c94] at H
            have c94b0 : decide ((wrap64 (a0_1 * a1_0)) < 0) = true := decide_eq_true c94
            clear c94
            (first | rw [c94b0] | (simp only [i64_w, i32_w]; rw [c94b0]) | skip)
            have H' := Aside0.mk H
            clear H
            go_wp2
            go_meet
            case rel => exact ⟨_, (wrap64 (-(wrap64 (a0_0 * a1_1)))), (wrap64 (-(wrap64 (a0_1 * a1_0)))), (by first | rfl | (simp; done) | (simp [*]; done)), (by first | rfl | (simp; done) | (simp [*]; done)), H', ⟨by have := HJ3.out; first | omega | exact Nat.le_refl _⟩, ⟨by (with_reducible repeat (first | refine blk_drewN ?_ _ | refine blk_drew ?_ | refine blk_alloc ?_ _)); exact BK378.out⟩, ⟨by (with_reducible repeat (first | refine blk_drewN ?_ _ | refine blk_drew ?_ | refine blk_alloc ?_ _)); exact BK379.out⟩, ⟨by (with_reducible repeat (first | refine blk_drewN ?_ _ | refine blk_drew ?_ | refine blk_alloc ?_ _)); exact BK383.out⟩, ⟨by repeat (first | (with_reducible first | exact HB.out | apply below_alloc | apply pw_below_drewN | apply below_drew1 | refine below_set ?_ GE378.out | refine below_set ?_ GE379.out | refine below_set ?_ GE383.out) | exact HB.out)⟩⟩
          · rw [if_neg c94] at H
            have c94b0 : decide ((wrap64 (a0_1 * a1_0)) < 0) = false := decide_eq_false c94
            clear c94
            (first | rw [c94b0] | (simp only [i64_w, i32_w]; rw [c94b0]) | skip)
            have H' := Aside0.mk H
            clear H
            go_wp2
            go_meet
            case rel => exact ⟨_, (wrap64 (a0_0 * a1_1)), (wrap64 (a0_1 * a1_0)), (by first | rfl | (simp; done) | (simp [*]; done)), (by first | rfl | (simp; done) | (simp [*]; done)), H', ⟨by have := HJ3.out; first | omega | exact Nat.le_refl _⟩, ⟨by (with_reducible repeat (first | refine blk_drewN ?_ _ | refine blk_drew ?_ | refine blk_alloc ?_ _)); exact BK378.out⟩, ⟨by (with_reducible repeat (first | refine blk_drewN ?_ _ | refine blk_drew ?_ | refine blk_alloc ?_ _)); exact BK379.out⟩, ⟨by (with_reducible repeat (first | refine blk_drewN ?_ _ | refine blk_drew ?_ | refine blk_alloc ?_ _)); exact BK383.out⟩, ⟨by repeat (first | (with_reducible first | exact HB.out | apply below_alloc | apply pw_below_drewN | apply below_drew1 | refine below_set ?_ GE378.out | refine below_set ?_ GE379.out | refine below_set ?_ GE383.out) | exact HB.out)⟩⟩
        case rest =>
          clear HC92
          try clear c1
          try clear c2
          try clear p2
          try clear c3
          try clear c4
          try clear c5
          try clear c6
          try clear p6
          try clear c7
          try clear c8
          try clear c9
          try clear c12
          try clear c13
          try clear c15
          try clear c15b0
          try clear c16
          try clear c17
          try clear c19
          try clear c19b0
          try clear c20
          try clear c21
          try clear c23
          try clear c23b0
          try clear c24
          try clear c25
          try clear c27
          try clear c27b0
          try clear c28
          try clear c29
          try clear c31
          try clear c31b0
          try clear c32
          try clear c33
          try clear c35
          try clear c37
          try clear c37b0
          try clear c38
          try clear c39
          try clear c41
          try clear c43
          try clear c43b0
          try clear c44
          try clear c45
          try clear c47
          try clear c49
          try clear c49b0
          try clear c50
          try clear c51
          try clear c53
          try clear c56
          try clear c58
          try clear c59
          try clear c60
          try clear c62
          try clear p64
          try clear c68
          try clear c69
          try clear c71
          try clear c76
          try clear c77
          try clear c79
          try clear c82
          try clear c83
          try clear c85
          try clear c86
          try clear c89
          try clear c90
          try clear c94
          try clear c94b0
          try clear hcz14_0
          try clear hcz14_1
          try clear hcz14_2
          try clear hcz18_0
          try clear hcz18_1
          try clear hcz18_2
          try clear hcz22_0
          try clear hcz22_1
          try clear hcz22_2
          try clear hcz26_0
          try clear hcz26_1
          try clear hcz26_2
          try clear hcz30_0
          try clear hcz30_1
          try clear hcz30_2
          try clear hcz34_0
          try clear hcz34_1
          try clear hcz34_2
          try clear hcz36_0
          try clear hcz36_1
          try clear hcz36_2
          try clear hcz40_0
          try clear hcz40_1
          try clear hcz40_2
          try clear hcz42_0
          try clear hcz42_1
          try clear hcz42_2
          try clear hcz46_0
          try clear hcz46_1
          try clear hcz46_2
          try clear hcz48_0
          try clear hcz48_1
          try clear hcz48_2
          try clear hcz52_0
          try clear hcz52_1
          try clear hcz52_2
          try clear hcz54_0
          try clear hcz54_1
          try clear hcz54_2
          try clear hcz61_0
          try clear hcz61_1
          try clear hcz61_2
          try clear hcz63_0
          try clear hcz63_1
          try clear hcz63_2
          try clear hcz65_0
          try clear hcz65_1
          try clear hcz65_2
          try clear hcz67_0
          try clear hcz67_1
          try clear hcz67_2
          try clear hcz70_0
          try clear hcz70_1
          try clear hcz70_2
          try clear hcz72_0
          try clear hcz72_1
          try clear hcz72_2
          try clear hcz74_0
          try clear hcz74_1
          try clear hcz74_2
          try clear hcz78_0
          try clear hcz78_1
          try clear hcz78_2
          try clear hcz80_0
          try clear hcz80_1
          try clear hcz80_2
          try clear hcz87_0
          try clear hcz87_1
          try clear hcz87_2
          try clear hcz8_0
          try clear hcz8_1
          try clear hcz8_2
          try clear hcz91_0
          try clear hcz91_1
          try clear hcz91_2
          try clear hcz9_0
          try clear hcz9_1
          try clear hcz9_2
          try clear hfz14_0
          try clear hfz14_1
          try clear hfz14_2
          try clear hfz18_0
          try clear hfz18_1
          try clear hfz18_2
          try clear hfz22_0
          try clear hfz22_1
          try clear hfz22_2
          try clear hfz26_0
          try clear hfz26_1
          try clear hfz26_2
          try clear hfz30_0
          try clear hfz30_1
          try clear hfz30_2
          try clear hfz34_0
          try clear hfz34_1
          try clear hfz34_2
          try clear hfz36_0
          try clear hfz36_1
          try clear hfz36_2
          try clear hfz40_0
          try clear hfz40_1
          try clear hfz40_2
          try clear hfz42_0
          try clear hfz42_1
          try clear hfz42_2
          try clear hfz46_0
          try clear hfz46_1
          try clear hfz46_2
          try clear hfz48_0
          try clear hfz48_1
          try clear hfz48_2
          try clear hfz52_0
          try clear hfz52_1
          try clear hfz52_2
          try clear hfz54_0
          try clear hfz54_1
          try clear hfz54_2
          try clear hfz61_0
          try clear hfz61_1
          try clear hfz61_2
          try clear hfz63_0
          try clear hfz63_1
          try clear hfz63_2
          try clear hfz65_0
          try clear hfz65_1
          try clear hfz65_2
          try clear hfz67_0
          try clear hfz67_1
          try clear hfz67_2
          try clear hfz70_0
          try clear hfz70_1
          try clear hfz70_2
          try clear hfz72_0
          try clear hfz72_1
          try clear hfz72_2
          try clear hfz74_0
          try clear hfz74_1
          try clear hfz74_2
          try clear hfz78_0
          try clear hfz78_1
          try clear hfz78_2
          try clear hfz80_0
          try clear hfz80_1
          try clear hfz80_2
          try clear hfz87_0
          try clear hfz87_1
          try clear hfz87_2
          try clear hfz8_0
          try clear hfz8_1
          try clear hfz8_2
          try clear hfz91_0
          try clear hfz91_1
          try clear hfz91_2
          try clear hfz9_0
          try clear hfz9_1
          try clear hfz9_2
          try clear p2
          obtain ⟨kq, x6_91, x7_91, rfl, rfl, HA, HJ91, BK378, BK379, BK383, HB⟩ := hcut
          cases kq with
          | zero => exact absurd HA.out (by simp [coupletlaw04_FracQuotients.j1])
          | succ kj91 =>
            have H := HA.out
            clear HA
            simp only [coupletlaw04_FracQuotients.j1] at H
            replace H := Option.bind_eq_some_iff.mp H
            obtain ⟨⟨t387, t388, t389⟩, A950, H⟩ := H
            replace H : ((frac_New.f kj91 x6_91 x7_91).bind fun bt391 => (if (t380 == bt391.1 && (t381 == bt391.2.1 && (t382 == bt391.2.2))) = true then (if t382 = true then (if (t387 == (wrap64 (-a0_0)) && (t388 == a0_1 && (!t389))) = true then ((coupletlaw04_awake.f kj91).bind fun t394 => (some t394)) else (some false)) else ((coupletref04_Same.f kj91 x6_91 x7_91 t380 t381).bind fun t395 => (if t395 = true then (if (t387 == (wrap64 (-a0_0)) && (t388 == a0_1 && (!t389))) = true then ((coupletlaw04_awake.f kj91).bind fun t396 => (some t396)) else (some false)) else (some false)))) else (some false))) = some r := H
            have A95 := Aside0.mk A950
            clear A950
            replace H := Option.bind_eq_some_iff.mp H
            obtain ⟨⟨t391, t392, t393⟩, A960, H⟩ := H
            replace H : (if (t380 == t391 && (t381 == t392 && (t382 == t393))) = true then (if t382 = true then (if (t387 == (wrap64 (-a0_0)) && (t388 == a0_1 && (!t389))) = true then ((coupletlaw04_awake.f kj91).bind fun t394 => (some t394)) else (some false)) else ((coupletref04_Same.f kj91 x6_91 x7_91 t380 t381).bind fun t395 => (if t395 = true then (if (t387 == (wrap64 (-a0_0)) && (t388 == a0_1 && (!t389))) = true then ((coupletlaw04_awake.f kj91).bind fun t396 => (some t396)) else (some false)) else (some false)))) else (some false)) = some r := H
            have A96 := Aside0.mk A960
            clear A960
            by_cases c97 : (t380 == t391 && (t381 == t392 && (t382 == t393))) = true
            · rw [if_pos c97] at H
              have c97b0 : (t380 == t391 && (t381 == t392 && (t382 == t393))) = true := c97
              (try (have c97b1 : decide (t380 = t391 && (t381 == t392 && (t382 == t393))) = true := by simpa using c97))
              (try (have c97b2 : (t380 == t391 && (t381 == t392 && (t382 == t393))) = true := by simpa using c97))
              clear c97
              have ce_ : ((t380 == t391 && (t381 == t392 && (t382 == t393)))) = true := c97b0
              simp only [Bool.and_eq_true, beq_iff_eq] at ce_
              obtain ⟨rfl, rfl, rfl⟩ := ce_
              by_cases c98 : t382 = true
              · subst c98
                have H1 : (if (t387 == (wrap64 (-a0_0)) && (t388 == a0_1 && (!t389))) = true then ((coupletlaw04_awake.f kj91).bind fun t394 => (some t394)) else (some false)) = some r := by rw [if_pos rfl] at H; exact H
                clear H
                have H := H1
                clear H1
                by_cases c99 : (t387 == (wrap64 (-a0_0)) && (t388 == a0_1 && (!t389))) = true
                · rw [if_pos c99] at H
                  have c99b0 : (t387 == (wrap64 (-a0_0)) && (t388 == a0_1 && (!t389))) = true := c99
                  (try (have c99b1 : decide (t387 = (wrap64 (-a0_0)) && (t388 == a0_1 && (!t389))) = true := by simpa using c99))
                  (try (have c99b2 : (t387 == (wrap64 (-a0_0)) && (t388 == a0_1 && (!t389))) = true := by simpa using c99))
                  clear c99
                  replace H := Option.bind_eq_some_iff.mp H
                  obtain ⟨t394, A1000, H⟩ := H
                  replace H : (some t394) = some r := H
                  have A100 := Aside0.mk A1000
                  clear A1000
                  obtain rfl := Option.some.inj H
                  have hnb101 := NB378_379.out
                  have hnc101 := NB379_378.out
                  have hnb102 := NB378_383.out
                  have hnc102 := NB383_378.out
                  have hcz103_0 : wc.cell? ⟨gb378, 0, none⟩ = some (.int .i64 a0_0) := (blk_cell BK378.out 0).trans rfl
                  have hcz103_1 : wc.cell? ⟨gb378, 1, none⟩ = some (.int .i64 a0_1) := (blk_cell BK378.out 1).trans rfl
                  have hcz103_2 : wc.cell? ⟨gb378, 2, none⟩ = some (.bool a0_2) := (blk_cell BK378.out 2).trans rfl
                  have hfz103_0 := blk_frozen BK378.out 0
                  have hfz103_1 := blk_frozen BK378.out 1
                  have hfz103_2 := blk_frozen BK378.out 2
                  try go_wp2_with (first | ((with_reducible refine gate_callee (f := 18) rfl ?_); refine goesL_ (some 87) rfl rfl Try.func18 (by kernel_rfl) rfl #[.agg #[.int .i64 a0_0, .int .i64 a0_1, .bool a0_2]] rfl (by (try simp only [List.map_toArray, List.map_cons, List.map_nil]); first | done | rfl | (simp only [List.length_drop, List.length_take]; rfl)) ?_; (with_reducible refine (frac_Frac_Neg.calls kj91 a0_0 a0_1 a0_2 t387 t388 t389 _ A95.out).mono ?_); rintro e w104 ⟨rfl, hb⟩; refine ⟨_, rfl, ?_⟩; have n0_ := Aside0.mk (blk_below (g := gb378) (o := .cells #[.int .i64 a0_0, .int .i64 a0_1, .bool a0_2] 23 (0, 0)) (by (with_reducible repeat (first | refine blk_drewN ?_ _ | refine blk_drew ?_ | refine blk_alloc ?_ _)); exact BK378.out) hb); have n1_ := Aside0.mk (blk_below (g := gb379) (o := .cells #[.int .i64 a1_0, .int .i64 a1_1, .bool a1_2] 23 (0, 0)) (by (with_reducible repeat (first | refine blk_drewN ?_ _ | refine blk_drew ?_ | refine blk_alloc ?_ _)); exact BK379.out) hb); have n2_ := Aside0.mk (blk_below (g := gb383) (o := .cells #[.int .i64 t380, .int .i64 t381, .bool true] 23 (0, 0)) (by (with_reducible repeat (first | refine blk_drewN ?_ _ | refine blk_drew ?_ | refine blk_alloc ?_ _)); exact BK383.out) hb); have n3_ := Aside0.mk (below_step (by repeat (first | (with_reducible first | exact HB.out | apply below_alloc | apply pw_below_drewN | apply below_drew1 | refine below_set ?_ GE378.out | refine below_set ?_ GE379.out | refine below_set ?_ GE383.out) | exact HB.out)) hb); clear BK378; clear BK379; clear BK383; clear HB; have BK378 := n0_; have BK379 := n1_; have BK383 := n2_; have HB := n3_; clear n0_ n1_ n2_ n3_; (try clear hb); (try clear hb2); (try clear hk); (try clear hi)) | ((with_reducible refine gate_dst (N := 8) rfl ?_); refine box_event ?hg (N := 8) ?hd (cs := #[.int .i64 0, .int .i64 0, .bool false]) (t := 23) ?hr ?_; (case hd => rfl); (case hg => rfl); (case hr => first | (go_simp; done) | (go_simp; rfl)); intro gb390 hg w105 hbox hb; have n0_ := Aside0.mk (blk_below (g := gb378) (o := .cells #[.int .i64 a0_0, .int .i64 a0_1, .bool a0_2] 23 (0, 0)) (by (with_reducible repeat (first | refine blk_drewN ?_ _ | refine blk_drew ?_ | refine blk_alloc ?_ _)); exact BK378.out) hb); have n1_ := Aside0.mk (blk_below (g := gb379) (o := .cells #[.int .i64 a1_0, .int .i64 a1_1, .bool a1_2] 23 (0, 0)) (by (with_reducible repeat (first | refine blk_drewN ?_ _ | refine blk_drew ?_ | refine blk_alloc ?_ _)); exact BK379.out) hb); have n2_ := Aside0.mk (blk_below (g := gb383) (o := .cells #[.int .i64 t380, .int .i64 t381, .bool true] 23 (0, 0)) (by (with_reducible repeat (first | refine blk_drewN ?_ _ | refine blk_drew ?_ | refine blk_alloc ?_ _)); exact BK383.out) hb); have n3_ := Aside0.mk (below_step (by repeat (first | (with_reducible first | exact HB.out | apply below_alloc | apply pw_below_drewN | apply below_drew1 | refine below_set ?_ GE378.out | refine below_set ?_ GE379.out | refine below_set ?_ GE383.out) | exact HB.out)) hb); have n4_ := Aside0.mk (hbox); have n5_ := Aside0.mk ((by rw [hg]; exact (below_size (by repeat (first | (with_reducible first | exact HB.out | apply below_alloc | apply pw_below_drewN | apply below_drew1 | refine below_set ?_ GE378.out | refine below_set ?_ GE379.out | refine below_set ?_ GE383.out) | exact HB.out))) : w.heap.size ≤ gb390)); have n6_ := Aside0.mk ((by rw [hg]; exact (below_size (by repeat (first | (with_reducible first | exact HB.out | apply below_alloc | apply pw_below_drewN | apply below_drew1 | refine below_set ?_ GE378.out | refine below_set ?_ GE379.out | refine below_set ?_ GE383.out) | exact HB.out))) : w.heap.size ≤ gb390)); have n7_ := Aside0.mk ((by rw [hg]; exact Nat.ne_of_lt (blk_lt (g := gb378) (o := .cells #[.int .i64 a0_0, .int .i64 a0_1, .bool a0_2] 23 (0, 0)) (by (with_reducible repeat (first | refine blk_drewN ?_ _ | refine blk_drew ?_ | refine blk_alloc ?_ _)); exact BK378.out)) : gb378 ≠ gb390)); have n8_ := Aside0.mk ((by rw [hg]; exact Nat.ne_of_gt (blk_lt (g := gb378) (o := .cells #[.int .i64 a0_0, .int .i64 a0_1, .bool a0_2] 23 (0, 0)) (by (with_reducible repeat (first | refine blk_drewN ?_ _ | refine blk_drew ?_ | refine blk_alloc ?_ _)); exact BK378.out)) : gb390 ≠ gb378)); have n9_ := Aside0.mk ((by rw [hg]; exact Nat.ne_of_lt (blk_lt (g := gb379) (o := .cells #[.int .i64 a1_0, .int .i64 a1_1, .bool a1_2] 23 (0, 0)) (by (with_reducible repeat (first | refine blk_drewN ?_ _ | refine blk_drew ?_ | refine blk_alloc ?_ _)); exact BK379.out)) : gb379 ≠ gb390)); have n10_ := Aside0.mk ((by rw [hg]; exact Nat.ne_of_gt (blk_lt (g := gb379) (o := .cells #[.int .i64 a1_0, .int .i64 a1_1, .bool a1_2] 23 (0, 0)) (by (with_reducible repeat (first | refine blk_drewN ?_ _ | refine blk_drew ?_ | refine blk_alloc ?_ _)); exact BK379.out)) : gb390 ≠ gb379)); have n11_ := Aside0.mk ((by rw [hg]; exact Nat.ne_of_lt (blk_lt (g := gb383) (o := .cells #[.int .i64 t380, .int .i64 t381, .bool true] 23 (0, 0)) (by (with_reducible repeat (first | refine blk_drewN ?_ _ | refine blk_drew ?_ | refine blk_alloc ?_ _)); exact BK383.out)) : gb383 ≠ gb390)); have n12_ := Aside0.mk ((by rw [hg]; exact Nat.ne_of_gt (blk_lt (g := gb383) (o := .cells #[.int .i64 t380, .int .i64 t381, .bool true] 23 (0, 0)) (by (with_reducible repeat (first | refine blk_drewN ?_ _ | refine blk_drew ?_ | refine blk_alloc ?_ _)); exact BK383.out)) : gb390 ≠ gb383)); clear BK378; clear BK379; clear BK383; clear HB; have BK378 := n0_; have BK379 := n1_; have BK383 := n2_; have HB := n3_; have BK390 := n4_; have GW390 := n5_; have GE390 := n6_; have NB378_390 := n7_; have NB390_378 := n8_; have NB379_390 := n9_; have NB390_379 := n10_; have NB383_390 := n11_; have NB390_383 := n12_; clear n0_ n1_ n2_ n3_ n4_ n5_ n6_ n7_ n8_ n9_ n10_ n11_ n12_; clear hb hbox hg; have hnb106 := NB390_378.out; have hnc106 := NB378_390.out; have hnb107 := NB390_379.out; have hnc107 := NB379_390.out; have hnb108 := NB390_383.out; have hnc108 := NB383_390.out; have hcz109_0 : w105.cell? ⟨gb390, 0, none⟩ = some (.int .i64 0) := (blk_cell BK390.out 0).trans rfl; have hcz109_1 : w105.cell? ⟨gb390, 1, none⟩ = some (.int .i64 0) := (blk_cell BK390.out 1).trans rfl; have hcz109_2 : w105.cell? ⟨gb390, 2, none⟩ = some (.bool false) := (blk_cell BK390.out 2).trans rfl; have hfz109_0 := blk_frozen BK390.out 0; have hfz109_1 := blk_frozen BK390.out 1; have hfz109_2 := blk_frozen BK390.out 2))
                  have n0_ : Aside0 ((((w105.setCell ⟨gb390, 0, none⟩ (.int .i64 t387)).setCell ⟨gb390, 1, none⟩ (.int .i64 t388)).setCell ⟨gb390, 2, none⟩ (.bool t389)).heap[gb378]? = some (.cells #[.int .i64 a0_0, .int .i64 a0_1, .bool a0_2] 23 (0, 0))) := ⟨by (with_reducible repeat (first | refine blk_drewN ?_ _ | refine blk_drew ?_ | refine blk_alloc ?_ _)); refine blk_far ?_ NB378_390.out _; (with_reducible repeat (first | refine blk_drewN ?_ _ | refine blk_drew ?_ | refine blk_alloc ?_ _)); refine blk_far ?_ NB378_390.out _; (with_reducible repeat (first | refine blk_drewN ?_ _ | refine blk_drew ?_ | refine blk_alloc ?_ _)); refine blk_far ?_ NB378_390.out _; (with_reducible repeat (first | refine blk_drewN ?_ _ | refine blk_drew ?_ | refine blk_alloc ?_ _)); exact BK378.out⟩
                  have n1_ : Aside0 ((((w105.setCell ⟨gb390, 0, none⟩ (.int .i64 t387)).setCell ⟨gb390, 1, none⟩ (.int .i64 t388)).setCell ⟨gb390, 2, none⟩ (.bool t389)).heap[gb379]? = some (.cells #[.int .i64 a1_0, .int .i64 a1_1, .bool a1_2] 23 (0, 0))) := ⟨by (with_reducible repeat (first | refine blk_drewN ?_ _ | refine blk_drew ?_ | refine blk_alloc ?_ _)); refine blk_far ?_ NB379_390.out _; (with_reducible repeat (first | refine blk_drewN ?_ _ | refine blk_drew ?_ | refine blk_alloc ?_ _)); refine blk_far ?_ NB379_390.out _; (with_reducible repeat (first | refine blk_drewN ?_ _ | refine blk_drew ?_ | refine blk_alloc ?_ _)); refine blk_far ?_ NB379_390.out _; (with_reducible repeat (first | refine blk_drewN ?_ _ | refine blk_drew ?_ | refine blk_alloc ?_ _)); exact BK379.out⟩
                  have n2_ : Aside0 ((((w105.setCell ⟨gb390, 0, none⟩ (.int .i64 t387)).setCell ⟨gb390, 1, none⟩ (.int .i64 t388)).setCell ⟨gb390, 2, none⟩ (.bool t389)).heap[gb383]? = some (.cells #[.int .i64 t380, .int .i64 t381, .bool true] 23 (0, 0))) := ⟨by (with_reducible repeat (first | refine blk_drewN ?_ _ | refine blk_drew ?_ | refine blk_alloc ?_ _)); refine blk_far ?_ NB383_390.out _; (with_reducible repeat (first | refine blk_drewN ?_ _ | refine blk_drew ?_ | refine blk_alloc ?_ _)); refine blk_far ?_ NB383_390.out _; (with_reducible repeat (first | refine blk_drewN ?_ _ | refine blk_drew ?_ | refine blk_alloc ?_ _)); refine blk_far ?_ NB383_390.out _; (with_reducible repeat (first | refine blk_drewN ?_ _ | refine blk_drew ?_ | refine blk_alloc ?_ _)); exact BK383.out⟩
                  have n3_ : Aside0 ((((w105.setCell ⟨gb390, 0, none⟩ (.int .i64 t387)).setCell ⟨gb390, 1, none⟩ (.int .i64 t388)).setCell ⟨gb390, 2, none⟩ (.bool t389)).heap[gb390]? = some (.cells #[.int .i64 t387, .int .i64 t388, .bool t389] 23 (0, 0))) := ⟨by (with_reducible repeat (first | refine blk_drewN ?_ _ | refine blk_drew ?_ | refine blk_alloc ?_ _)); refine blk_put (cs := #[.int .i64 t387, .int .i64 t388, .bool false]) ?_ 2 _ rfl; (with_reducible repeat (first | refine blk_drewN ?_ _ | refine blk_drew ?_ | refine blk_alloc ?_ _)); refine blk_put (cs := #[.int .i64 t387, .int .i64 0, .bool false]) ?_ 1 _ rfl; (with_reducible repeat (first | refine blk_drewN ?_ _ | refine blk_drew ?_ | refine blk_alloc ?_ _)); refine blk_put (cs := #[.int .i64 0, .int .i64 0, .bool false]) ?_ 0 _ rfl; (with_reducible repeat (first | refine blk_drewN ?_ _ | refine blk_drew ?_ | refine blk_alloc ?_ _)); exact BK390.out⟩
                  have n4_ : Aside0 (Below w.heap.size w (((w105.setCell ⟨gb390, 0, none⟩ (.int .i64 t387)).setCell ⟨gb390, 1, none⟩ (.int .i64 t388)).setCell ⟨gb390, 2, none⟩ (.bool t389))) := ⟨by repeat (first | (with_reducible first | exact HB.out | apply below_alloc | apply pw_below_drewN | apply below_drew1 | refine below_set ?_ GE378.out | refine below_set ?_ GE379.out | refine below_set ?_ GE383.out | refine below_set ?_ GE390.out) | exact HB.out)⟩
                  (try clear BK378)
                  (try clear BK379)
                  (try clear BK383)
                  (try clear BK390)
                  (try clear HB)
                  generalize (((w105.setCell ⟨gb390, 0, none⟩ (.int .i64 t387)).setCell ⟨gb390, 1, none⟩ (.int .i64 t388)).setCell ⟨gb390, 2, none⟩ (.bool t389)) = w110 at n0_ n1_ n2_ n3_ n4_ ⊢
                  have BK378 := n0_
                  have BK379 := n1_
                  have BK383 := n2_
                  have BK390 := n3_
                  have HB := n4_
                  clear n0_ n1_ n2_ n3_ n4_
                  have n0_ := Aside0.mk (blk_drew BK378.out)
                  have n1_ := Aside0.mk (blk_drew BK379.out)
                  have n2_ := Aside0.mk (blk_drew BK383.out)
                  have n3_ := Aside0.mk (blk_drew BK390.out)
                  have n4_ := Aside0.mk (below_drew1 HB.out)
                  clear BK378
                  clear BK379
                  clear BK383
                  clear BK390
                  clear HB
                  have BK378 := n0_
                  have BK379 := n1_
                  have BK383 := n2_
                  have BK390 := n3_
                  have HB := n4_
                  clear n0_ n1_ n2_ n3_ n4_
                  refine start_ (n := 32) (S := fun w' => w'.cell? ⟨gb383, 0, none⟩ = some (.int .i64 t380) ∧ w'.cell? ⟨gb383, 1, none⟩ = some (.int .i64 t381) ∧ w'.cell? ⟨gb383, 2, none⟩ = some (.bool true) ∧ w'.cell? ⟨gb390, 0, none⟩ = some (.int .i64 t387) ∧ w'.cell? ⟨gb390, 1, none⟩ = some (.int .i64 t388) ∧ w'.cell? ⟨gb390, 2, none⟩ = some (.bool t389) ∧ w'.cell? ⟨gb378, 0, none⟩ = some (.int .i64 a0_0) ∧ w'.cell? ⟨gb378, 1, none⟩ = some (.int .i64 a0_1) ∧ w'.cell? ⟨gb378, 2, none⟩ = some (.bool a0_2)) (ds := []) #[false, false, false, false, false, false, false, false, false, false, false, false, false, false, false, false, false, false, false, false, false, false, false, false, false, false, false, false, false, false, false, false] (by kernel_rfl) rfl rfl ⟨(blk_cell BK383.out 0).trans rfl, (blk_cell BK383.out 1).trans rfl, (blk_cell BK383.out 2).trans rfl, (blk_cell BK390.out 0).trans rfl, (blk_cell BK390.out 1).trans rfl, (blk_cell BK390.out 2).trans rfl, (blk_cell BK378.out 0).trans rfl, (blk_cell BK378.out 1).trans rfl, (blk_cell BK378.out 2).trans rfl⟩ (fun hHeld => ?_); refine with_tabW coupletlaw04_FracQuotients.tab8 coupletlaw04_FracQuotients.bits8 (fun HT_ HW_ => ?_)
                  generalize w110.drew = w111 at BK378 BK379 BK383 BK390 HB hHeld ⊢
                  refine pure_ (i := 1) (N := some 89) (v := ?_) (a' := ?_) #[false, true, false, false, false, false, false, false, false, false, false, false, false, false, false, false, false, false, false, false, false, false, false, false, false, false, false, false, false, false, false, false] rfl rfl (any_of HT_.out (by kernel_rfl)) (fun _ _ _ h => h) (Or.inl ⟨by rfl, ?_⟩) ?_ ?_
                  rotate_left
                  · intro w'
                    go_simp
                    with_reducible rfl
                  rotate_left
                  · simp only [Act.put, List.setIfInBounds_toArray, List.set_cons_zero, List.set_cons_succ, i64_w, i32_w]
                    rfl
                  refine pure_ (i := 2) (N := some 90) (v := ?_) (a' := ?_) #[false, true, true, false, false, false, false, false, false, false, false, false, false, false, false, false, false, false, false, false, false, false, false, false, false, false, false, false, false, false, false, false] rfl rfl (any_of HT_.out (by kernel_rfl)) (fun _ _ _ h => h) (Or.inl ⟨by rfl, ?_⟩) ?_ ?_
                  rotate_left
                  · intro w'
                    go_simp
                    with_reducible rfl
                  rotate_left
                  · simp only [Act.put, List.setIfInBounds_toArray, List.set_cons_zero, List.set_cons_succ, i64_w, i32_w]
                    rfl
                  refine take_ (i := 0) (N := some 88) (v := ?_) (a' := ?_) #[true, true, true, false, false, false, false, false, false, false, false, false, false, false, false, false, false, false, false, false, false, false, false, false, false, false, false, false, false, false, false, false] rfl rfl (take_ofW HT_.out HW_.out (by kernel_rfl)) (fun _ _ _ h => h) (Or.inl ⟨by rfl, ?_⟩) hHeld ?_ ?_
                  rotate_left
                  · rintro w' ⟨s0, s1, s2, s3, s4, s5, s6, s7, s8⟩
                    go_simp
                    with_reducible rfl
                  rotate_left
                  · simp only [Act.put, List.setIfInBounds_toArray, List.set_cons_zero, List.set_cons_succ, i64_w, i32_w]
                    rfl
                  refine one_ (i := 3) (N := some 91) #[true, true, true, true, false, false, false, false, false, false, false, false, false, false, false, false, false, false, false, false, false, false, false, false, false, false, false, false, false, false, false, false] rfl rfl (one_of HT_.out (by kernel_rfl)) (by decide) (fun K hK => ?_)
                  refine goes_ Try.func10 (by kernel_rfl) rfl #[.int .i64 x6_91, .int .i64 x7_91] (by rfl) rfl rfl (by (try simp only [List.map_toArray, List.map_cons, List.map_nil]); first | done | rfl | (simp only [List.length_drop, List.length_take]; rfl)) ?_
                  with_reducible refine (frac_New.calls kj91 x6_91 x7_91 t380 t381 true _ A96.out).mono ?_
                  rintro e w112 ⟨rfl, hb⟩
                  refine ⟨_, rfl, ?_⟩
                  have n0_ := Aside0.mk (blk_below (g := gb378) (o := .cells #[.int .i64 a0_0, .int .i64 a0_1, .bool a0_2] 23 (0, 0)) (by (with_reducible repeat (first | refine blk_drewN ?_ _ | refine blk_drew ?_ | refine blk_alloc ?_ _)); exact BK378.out) hb)
                  have n1_ := Aside0.mk (blk_below (g := gb379) (o := .cells #[.int .i64 a1_0, .int .i64 a1_1, .bool a1_2] 23 (0, 0)) (by (with_reducible repeat (first | refine blk_drewN ?_ _ | refine blk_drew ?_ | refine blk_alloc ?_ _)); exact BK379.out) hb)
                  have n2_ := Aside0.mk (blk_below (g := gb383) (o := .cells #[.int .i64 t380, .int .i64 t381, .bool true] 23 (0, 0)) (by (with_reducible repeat (first | refine blk_drewN ?_ _ | refine blk_drew ?_ | refine blk_alloc ?_ _)); exact BK383.out) hb)
                  have n3_ := Aside0.mk (blk_below (g := gb390) (o := .cells #[.int .i64 t387, .int .i64 t388, .bool t389] 23 (0, 0)) (by (with_reducible repeat (first | refine blk_drewN ?_ _ | refine blk_drew ?_ | refine blk_alloc ?_ _)); exact BK390.out) hb)
                  have n4_ := Aside0.mk (below_step (by repeat (first | (with_reducible first | exact HB.out | apply below_alloc | apply pw_below_drewN | apply below_drew1 | refine below_set ?_ GE378.out | refine below_set ?_ GE379.out | refine below_set ?_ GE383.out | refine below_set ?_ GE390.out) | exact HB.out)) hb)
                  clear BK378
                  clear BK379
                  clear BK383
                  clear BK390
                  clear HB
                  have BK378 := n0_
                  have BK379 := n1_
                  have BK383 := n2_
                  have BK390 := n3_
                  have HB := n4_
                  clear n0_ n1_ n2_ n3_ n4_
                  (try clear hb)
                  (try clear hb2)
                  (try clear hk)
                  (try clear hi)
                  refine hK.out _ _ ⟨(blk_cell BK383.out 0).trans rfl, (blk_cell BK383.out 1).trans rfl, (blk_cell BK383.out 2).trans rfl, (blk_cell BK390.out 0).trans rfl, (blk_cell BK390.out 1).trans rfl, (blk_cell BK390.out 2).trans rfl, (blk_cell BK378.out 0).trans rfl, (blk_cell BK378.out 1).trans rfl, (blk_cell BK378.out 2).trans rfl⟩ (fun hHeld => ?_)
                  clear hK K
                  refine norm_ (a' := ?_) ?_ ?_
                  rotate_left
                  · show Act.put _ (some 91) _ = _
                    simp only [Act.put, List.setIfInBounds_toArray, List.set_cons_zero, List.set_cons_succ, i64_w, i32_w]
                    rfl
                  refine pure_ (i := 4) (N := some 92) (v := ?_) (a' := ?_) #[true, true, true, true, true, false, false, false, false, false, false, false, false, false, false, false, false, false, false, false, false, false, false, false, false, false, false, false, false, false, false, false] rfl rfl (any_of HT_.out (by kernel_rfl)) (fun _ _ _ h => h) (Or.inl ⟨by rfl, ?_⟩) ?_ ?_
                  rotate_left
                  · intro w'
                    go_simp
                    with_reducible rfl
                  rotate_left
                  · simp only [Act.put, List.setIfInBounds_toArray, List.set_cons_zero, List.set_cons_succ, i64_w, i32_w]
                    rfl
                  refine pure_ (i := 5) (N := some 93) (v := ?_) (a' := ?_) #[true, true, true, true, true, true, false, false, false, false, false, false, false, false, false, false, false, false, false, false, false, false, false, false, false, false, false, false, false, false, false, false] rfl rfl (any_of HT_.out (by kernel_rfl)) (fun _ _ _ h => h) (Or.inl ⟨by rfl, ?_⟩) ?_ ?_
                  rotate_left
                  · intro w'
                    go_simp
                    with_reducible rfl
                  rotate_left
                  · simp only [Act.put, List.setIfInBounds_toArray, List.set_cons_zero, List.set_cons_succ, i64_w, i32_w]
                    rfl
                  refine pure_ (i := 6) (N := some 94) (v := ?_) (a' := ?_) #[true, true, true, true, true, true, true, false, false, false, false, false, false, false, false, false, false, false, false, false, false, false, false, false, false, false, false, false, false, false, false, false] rfl rfl (any_of HT_.out (by kernel_rfl)) (fun _ _ _ h => h) (Or.inl ⟨by rfl, ?_⟩) ?_ ?_
                  rotate_left
                  · intro w'
                    go_simp
                    with_reducible rfl
                  rotate_left
                  · simp only [Act.put, List.setIfInBounds_toArray, List.set_cons_zero, List.set_cons_succ, i64_w, i32_w]
                    rfl
                  refine take_ (i := 7) (N := some 95) (v := ?_) (a' := ?_) #[true, true, true, true, true, true, true, true, false, false, false, false, false, false, false, false, false, false, false, false, false, false, false, false, false, false, false, false, false, false, false, false] rfl rfl (take_ofW HT_.out HW_.out (by kernel_rfl)) (fun _ _ _ h => h) (Or.inl ⟨by rfl, ?_⟩) hHeld ?_ ?_
                  rotate_left
                  · rintro w' ⟨s0, s1, s2, s3, s4, s5, s6, s7, s8⟩
                    go_simp
                    with_reducible rfl
                  rotate_left
                  · simp only [Act.put, List.setIfInBounds_toArray, List.set_cons_zero, List.set_cons_succ, i64_w, i32_w]
                    rfl
                  refine pure_ (i := 8) (N := some 96) (v := ?_) (a' := ?_) #[true, true, true, true, true, true, true, true, true, false, false, false, false, false, false, false, false, false, false, false, false, false, false, false, false, false, false, false, false, false, false, false] rfl rfl (any_of HT_.out (by kernel_rfl)) (fun _ _ _ h => h) (Or.inl ⟨by rfl, ?_⟩) ?_ ?_
                  rotate_left
                  · intro w'
                    go_simp
                    with_reducible rfl
                  rotate_left
                  · simp only [Act.put, List.setIfInBounds_toArray, List.set_cons_zero, List.set_cons_succ, i64_w, i32_w]
                    rfl
                  refine pure_ (i := 9) (N := some 97) (v := undef) (a' := ?_) #[true, true, true, true, true, true, true, true, true, true, false, false, false, false, false, false, false, false, false, false, false, false, false, false, false, false, false, false, false, false, false, false] rfl rfl (any_of HT_.out (by kernel_rfl)) (fun _ _ _ h => h) (Or.inr ⟨by rfl, rfl⟩) ?_ ?_
                  rotate_left
                  · simp only [Act.put, List.setIfInBounds_toArray, List.set_cons_zero, List.set_cons_succ, i64_w, i32_w]
                    rfl
                  refine pure_ (i := 10) (N := some 98) (v := undef) (a' := ?_) #[true, true, true, true, true, true, true, true, true, true, true, false, false, false, false, false, false, false, false, false, false, false, false, false, false, false, false, false, false, false, false, false] rfl rfl (any_of HT_.out (by kernel_rfl)) (fun _ _ _ h => h) (Or.inr ⟨by rfl, rfl⟩) ?_ ?_
                  rotate_left
                  · simp only [Act.put, List.setIfInBounds_toArray, List.set_cons_zero, List.set_cons_succ, i64_w, i32_w]
                    rfl
                  refine pure_ (i := 11) (N := some 99) (v := undef) (a' := ?_) #[true, true, true, true, true, true, true, true, true, true, true, true, false, false, false, false, false, false, false, false, false, false, false, false, false, false, false, false, false, false, false, false] rfl rfl (any_of HT_.out (by kernel_rfl)) (fun _ _ _ h => h) (Or.inr ⟨by rfl, rfl⟩) ?_ ?_
                  rotate_left
                  · simp only [Act.put, List.setIfInBounds_toArray, List.set_cons_zero, List.set_cons_succ, i64_w, i32_w]
                    rfl
                  refine pure_ (i := 12) (N := some 100) (v := undef) (a' := ?_) #[true, true, true, true, true, true, true, true, true, true, true, true, true, false, false, false, false, false, false, false, false, false, false, false, false, false, false, false, false, false, false, false] rfl rfl (any_of HT_.out (by kernel_rfl)) (fun _ _ _ h => h) (Or.inr ⟨by rfl, rfl⟩) ?_ ?_
                  rotate_left
                  · simp only [Act.put, List.setIfInBounds_toArray, List.set_cons_zero, List.set_cons_succ, i64_w, i32_w]
                    rfl
                  refine pure_ (i := 13) (N := some 101) (v := undef) (a' := ?_) #[true, true, true, true, true, true, true, true, true, true, true, true, true, true, false, false, false, false, false, false, false, false, false, false, false, false, false, false, false, false, false, false] rfl rfl (any_of HT_.out (by kernel_rfl)) (fun _ _ _ h => h) (Or.inr ⟨by rfl, rfl⟩) ?_ ?_
                  rotate_left
                  · simp only [Act.put, List.setIfInBounds_toArray, List.set_cons_zero, List.set_cons_succ, i64_w, i32_w]
                    rfl
                  refine pure_ (i := 14) (N := some 102) (v := undef) (a' := ?_) #[true, true, true, true, true, true, true, true, true, true, true, true, true, true, true, false, false, false, false, false, false, false, false, false, false, false, false, false, false, false, false, false] rfl rfl (any_of HT_.out (by kernel_rfl)) (fun _ _ _ h => h) (Or.inr ⟨by rfl, rfl⟩) ?_ ?_
                  rotate_left
                  · simp only [Act.put, List.setIfInBounds_toArray, List.set_cons_zero, List.set_cons_succ, i64_w, i32_w]
                    rfl
                  refine pure_ (i := 15) (N := some 103) (v := undef) (a' := ?_) #[true, true, true, true, true, true, true, true, true, true, true, true, true, true, true, true, false, false, false, false, false, false, false, false, false, false, false, false, false, false, false, false] rfl rfl (any_of HT_.out (by kernel_rfl)) (fun _ _ _ h => h) (Or.inr ⟨by rfl, rfl⟩) ?_ ?_
                  rotate_left
                  · simp only [Act.put, List.setIfInBounds_toArray, List.set_cons_zero, List.set_cons_succ, i64_w, i32_w]
                    rfl
                  refine pure_ (i := 16) (N := some 104) (v := ?_) (a' := ?_) #[true, true, true, true, true, true, true, true, true, true, true, true, true, true, true, true, true, false, false, false, false, false, false, false, false, false, false, false, false, false, false, false] rfl rfl (any_of HT_.out (by kernel_rfl)) (fun _ _ _ h => h) (Or.inl ⟨by rfl, ?_⟩) ?_ ?_
                  rotate_left
                  · intro w'
                    go_simp
                    with_reducible rfl
                  rotate_left
                  · simp only [Act.put, List.setIfInBounds_toArray, List.set_cons_zero, List.set_cons_succ, i64_w, i32_w]
                    rfl
                  refine pure_ (i := 17) (N := some 105) (v := ?_) (a' := ?_) #[true, true, true, true, true, true, true, true, true, true, true, true, true, true, true, true, true, true, false, false, false, false, false, false, false, false, false, false, false, false, false, false] rfl rfl (any_of HT_.out (by kernel_rfl)) (fun _ _ _ h => h) (Or.inl ⟨by rfl, ?_⟩) ?_ ?_
                  rotate_left
                  · intro w'
                    go_simp
                    with_reducible rfl
                  rotate_left
                  · simp only [Act.put, List.setIfInBounds_toArray, List.set_cons_zero, List.set_cons_succ, i64_w, i32_w]
                    rfl
                  refine pure_ (i := 18) (N := some 106) (v := ?_) (a' := ?_) #[true, true, true, true, true, true, true, true, true, true, true, true, true, true, true, true, true, true, true, false, false, false, false, false, false, false, false, false, false, false, false, false] rfl rfl (any_of HT_.out (by kernel_rfl)) (fun _ _ _ h => h) (Or.inl ⟨by rfl, ?_⟩) ?_ ?_
                  rotate_left
                  · intro w'
                    go_simp
                    with_reducible rfl
                  rotate_left
                  · simp only [Act.put, List.setIfInBounds_toArray, List.set_cons_zero, List.set_cons_succ, i64_w, i32_w]
                    rfl
                  refine pure_ (i := 20) (N := some 108) (v := ?_) (a' := ?_) #[true, true, true, true, true, true, true, true, true, true, true, true, true, true, true, true, true, true, true, false, true, false, false, false, false, false, false, false, false, false, false, false] rfl rfl (any_of HT_.out (by kernel_rfl)) (fun _ _ _ h => h) (Or.inl ⟨by rfl, ?_⟩) ?_ ?_
                  rotate_left
                  · intro w'
                    go_simp
                    with_reducible rfl
                  rotate_left
                  · simp only [Act.put, List.setIfInBounds_toArray, List.set_cons_zero, List.set_cons_succ, i64_w, i32_w]
                    rfl
                  refine pure_ (i := 23) (N := some 111) (v := ?_) (a' := ?_) #[true, true, true, true, true, true, true, true, true, true, true, true, true, true, true, true, true, true, true, false, true, false, false, true, false, false, false, false, false, false, false, false] rfl rfl (any_of HT_.out (by kernel_rfl)) (fun _ _ _ h => h) (Or.inl ⟨by rfl, ?_⟩) ?_ ?_
                  rotate_left
                  · intro w'
                    go_simp
                    with_reducible rfl
                  rotate_left
                  · simp only [Act.put, List.setIfInBounds_toArray, List.set_cons_zero, List.set_cons_succ, i64_w, i32_w]
                    rfl
                  refine take_ (i := 19) (N := some 107) (v := ?_) (a' := ?_) #[true, true, true, true, true, true, true, true, true, true, true, true, true, true, true, true, true, true, true, true, true, false, false, true, false, false, false, false, false, false, false, false] rfl rfl (take_ofW HT_.out HW_.out (by kernel_rfl)) (fun _ _ _ h => h) (Or.inl ⟨by rfl, ?_⟩) hHeld ?_ ?_
                  rotate_left
                  · rintro w' ⟨s0, s1, s2, s3, s4, s5, s6, s7, s8⟩
                    go_simp
                    with_reducible rfl
                  rotate_left
                  · simp only [Act.put, List.setIfInBounds_toArray, List.set_cons_zero, List.set_cons_succ, i64_w, i32_w]
                    rfl
                  refine take_ (i := 21) (N := some 109) (v := ?_) (a' := ?_) #[true, true, true, true, true, true, true, true, true, true, true, true, true, true, true, true, true, true, true, true, true, true, false, true, false, false, false, false, false, false, false, false] rfl rfl (take_ofW HT_.out HW_.out (by kernel_rfl)) (fun _ _ _ h => h) (Or.inl ⟨by rfl, ?_⟩) hHeld ?_ ?_
                  rotate_left
                  · rintro w' ⟨s0, s1, s2, s3, s4, s5, s6, s7, s8⟩
                    go_simp
                    with_reducible rfl
                  rotate_left
                  · simp only [Act.put, List.setIfInBounds_toArray, List.set_cons_zero, List.set_cons_succ, i64_w, i32_w]
                    rfl
                  refine pure_ (i := 22) (N := some 110) (v := ?_) (a' := ?_) #[true, true, true, true, true, true, true, true, true, true, true, true, true, true, true, true, true, true, true, true, true, true, true, true, false, false, false, false, false, false, false, false] rfl rfl (any_of HT_.out (by kernel_rfl)) (fun _ _ _ h => h) (Or.inl ⟨by rfl, ?_⟩) ?_ ?_
                  rotate_left
                  · intro w'
                    go_simp
                    with_reducible rfl
                  rotate_left
                  · simp only [Act.put, List.setIfInBounds_toArray, List.set_cons_zero, List.set_cons_succ, i64_w, i32_w]
                    rfl
                  refine take_ (i := 24) (N := some 112) (v := ?_) (a' := ?_) #[true, true, true, true, true, true, true, true, true, true, true, true, true, true, true, true, true, true, true, true, true, true, true, true, true, false, false, false, false, false, false, false] rfl rfl (take_ofW HT_.out HW_.out (by kernel_rfl)) (fun _ _ _ h => h) (Or.inl ⟨by rfl, ?_⟩) hHeld ?_ ?_
                  rotate_left
                  · rintro w' ⟨s0, s1, s2, s3, s4, s5, s6, s7, s8⟩
                    go_simp
                    with_reducible rfl
                  rotate_left
                  · simp only [Act.put, List.setIfInBounds_toArray, List.set_cons_zero, List.set_cons_succ, i64_w, i32_w]
                    rfl
                  refine pure_ (i := 25) (N := some 113) (v := ?_) (a' := ?_) #[true, true, true, true, true, true, true, true, true, true, true, true, true, true, true, true, true, true, true, true, true, true, true, true, true, true, false, false, false, false, false, false] rfl rfl (any_of HT_.out (by kernel_rfl)) (fun _ _ _ h => h) (Or.inl ⟨by rfl, ?_⟩) ?_ ?_
                  rotate_left
                  · intro w'
                    go_simp
                    with_reducible rfl
                  rotate_left
                  · simp only [Act.put, List.setIfInBounds_toArray, List.set_cons_zero, List.set_cons_succ, i64_w, i32_w]
                    rfl
                  refine pure_ (i := 26) (N := some 114) (v := ?_) (a' := ?_) #[true, true, true, true, true, true, true, true, true, true, true, true, true, true, true, true, true, true, true, true, true, true, true, true, true, true, true, false, false, false, false, false] rfl rfl (any_of HT_.out (by kernel_rfl)) (fun _ _ _ h => h) (Or.inl ⟨by rfl, ?_⟩) ?_ ?_
                  rotate_left
                  · intro w'
                    go_simp
                    with_reducible rfl
                  rotate_left
                  · simp only [Act.put, List.setIfInBounds_toArray, List.set_cons_zero, List.set_cons_succ, i64_w, i32_w]
                    rfl
                  refine pure_ (i := 27) (N := some 115) (v := ?_) (a' := ?_) #[true, true, true, true, true, true, true, true, true, true, true, true, true, true, true, true, true, true, true, true, true, true, true, true, true, true, true, true, false, false, false, false] rfl rfl (any_of HT_.out (by kernel_rfl)) (fun _ _ _ h => h) (Or.inl ⟨by rfl, ?_⟩) ?_ ?_
                  rotate_left
                  · intro w'
                    go_simp
                    with_reducible rfl
                  rotate_left
                  · simp only [Act.put, List.setIfInBounds_toArray, List.set_cons_zero, List.set_cons_succ, i64_w, i32_w]
                    rfl
                  refine pure_ (i := 28) (N := some 116) (v := ?_) (a' := ?_) #[true, true, true, true, true, true, true, true, true, true, true, true, true, true, true, true, true, true, true, true, true, true, true, true, true, true, true, true, true, false, false, false] rfl rfl (any_of HT_.out (by kernel_rfl)) (fun _ _ _ h => h) (Or.inl ⟨by rfl, ?_⟩) ?_ ?_
                  rotate_left
                  · intro w'
                    go_simp
                    with_reducible rfl
                  rotate_left
                  · simp only [Act.put, List.setIfInBounds_toArray, List.set_cons_zero, List.set_cons_succ, i64_w, i32_w]
                    rfl
                  refine one_ (i := 29) (N := some 117) #[true, true, true, true, true, true, true, true, true, true, true, true, true, true, true, true, true, true, true, true, true, true, true, true, true, true, true, true, true, true, false, false] rfl rfl (one_of HT_.out (by kernel_rfl)) (by decide) (fun K hK => ?_)
                  refine goes_ Try.func12 (by kernel_rfl) rfl #[] (by rfl) rfl rfl (by (try simp only [List.map_toArray, List.map_cons, List.map_nil]); first | done | rfl | (simp only [List.length_drop, List.length_take]; rfl)) ?_
                  with_reducible refine (coupletlaw04_awake.calls kj91  t394 _ A100.out).mono ?_
                  rintro e w113 ⟨rfl, hb⟩
                  refine ⟨_, rfl, ?_⟩
                  have n0_ := Aside0.mk (blk_below (g := gb378) (o := .cells #[.int .i64 a0_0, .int .i64 a0_1, .bool a0_2] 23 (0, 0)) (by (with_reducible repeat (first | refine blk_drewN ?_ _ | refine blk_drew ?_ | refine blk_alloc ?_ _)); exact BK378.out) hb)
                  have n1_ := Aside0.mk (blk_below (g := gb379) (o := .cells #[.int .i64 a1_0, .int .i64 a1_1, .bool a1_2] 23 (0, 0)) (by (with_reducible repeat (first | refine blk_drewN ?_ _ | refine blk_drew ?_ | refine blk_alloc ?_ _)); exact BK379.out) hb)
                  have n2_ := Aside0.mk (blk_below (g := gb383) (o := .cells #[.int .i64 t380, .int .i64 t381, .bool true] 23 (0, 0)) (by (with_reducible repeat (first | refine blk_drewN ?_ _ | refine blk_drew ?_ | refine blk_alloc ?_ _)); exact BK383.out) hb)
                  have n3_ := Aside0.mk (blk_below (g := gb390) (o := .cells #[.int .i64 t387, .int .i64 t388, .bool t389] 23 (0, 0)) (by (with_reducible repeat (first | refine blk_drewN ?_ _ | refine blk_drew ?_ | refine blk_alloc ?_ _)); exact BK390.out) hb)
                  have n4_ := Aside0.mk (below_step (by repeat (first | (with_reducible first | exact HB.out | apply below_alloc | apply pw_below_drewN | apply below_drew1 | refine below_set ?_ GE378.out | refine below_set ?_ GE379.out | refine below_set ?_ GE383.out | refine below_set ?_ GE390.out) | exact HB.out)) hb)
                  clear BK378
                  clear BK379
                  clear BK383
                  clear BK390
                  clear HB
                  have BK378 := n0_
                  have BK379 := n1_
                  have BK383 := n2_
                  have BK390 := n3_
                  have HB := n4_
                  clear n0_ n1_ n2_ n3_ n4_
                  (try clear hb)
                  (try clear hb2)
                  (try clear hk)
                  (try clear hi)
                  refine hK.out _ _ ⟨(blk_cell BK383.out 0).trans rfl, (blk_cell BK383.out 1).trans rfl, (blk_cell BK383.out 2).trans rfl, (blk_cell BK390.out 0).trans rfl, (blk_cell BK390.out 1).trans rfl, (blk_cell BK390.out 2).trans rfl, (blk_cell BK378.out 0).trans rfl, (blk_cell BK378.out 1).trans rfl, (blk_cell BK378.out 2).trans rfl⟩ (fun hHeld => ?_)
                  clear hK K
                  refine norm_ (a' := ?_) ?_ ?_
                  rotate_left
                  · show Act.put _ (some 117) _ = _
                    simp only [Act.put, List.setIfInBounds_toArray, List.set_cons_zero, List.set_cons_succ, i64_w, i32_w]
                    rfl
                  refine pure_ (i := 30) (N := some 118) (v := ?_) (a' := ?_) #[true, true, true, true, true, true, true, true, true, true, true, true, true, true, true, true, true, true, true, true, true, true, true, true, true, true, true, true, true, true, true, false] rfl rfl (any_of HT_.out (by kernel_rfl)) (fun _ _ _ h => h) (Or.inl ⟨by rfl, ?_⟩) ?_ ?_
                  rotate_left
                  · intro w'
                    go_simp
                    with_reducible rfl
                  rotate_left
                  · simp only [Act.put, List.setIfInBounds_toArray, List.set_cons_zero, List.set_cons_succ, i64_w, i32_w]
                    rfl
                  refine pure_ (i := 31) (N := some 4) (v := ?_) (a' := ?_) #[true, true, true, true, true, true, true, true, true, true, true, true, true, true, true, true, true, true, true, true, true, true, true, true, true, true, true, true, true, true, true, true] rfl rfl (any_of HT_.out (by kernel_rfl)) (fun _ _ _ h => h) (Or.inl ⟨by rfl, ?_⟩) ?_ ?_
                  rotate_left
                  · intro w'
                    go_simp
                    with_reducible rfl
                  rotate_left
                  · simp only [Act.put, List.setIfInBounds_toArray, List.set_cons_zero, List.set_cons_succ, i64_w, i32_w]
                    rfl
                  refine done_ (done_of HT_.out (by kernel_rfl)) ?_
                  try go_wp2
                  go_ret
                  exact ⟨by first | rfl | (simp [errW_none, errW_some] <;> rfl) | (simp [*, errW_none, errW_some] <;> rfl), by repeat (first | (with_reducible first | exact HB.out | apply below_alloc | apply pw_below_drewN | apply below_drew1 | refine below_set ?_ GE378.out | refine below_set ?_ GE379.out | refine below_set ?_ GE383.out | refine below_set ?_ GE390.out) | exact HB.out)⟩
                · rw [if_neg c99] at H
                  have c99b0 : (t387 == (wrap64 (-a0_0)) && (t388 == a0_1 && (!t389))) = false := by simpa using c99
                  (try (have c99b1 : decide (t387 = (wrap64 (-a0_0)) && (t388 == a0_1 && (!t389))) = false := by simpa using c99))
                  (try (have c99b2 : (t387 == (wrap64 (-a0_0)) && (t388 == a0_1 && (!t389))) = false := by simpa using c99))
                  (try (have c99b3 : ¬ (t387 = (wrap64 (-a0_0)) && (t388 == a0_1 && (!t389))) := by simpa using c99))
                  clear c99
                  obtain rfl := Option.some.inj H
                  exact absurd hr (by decide)
              · replace c98 := Bool.eq_false_iff.mpr c98
                subst c98
                have H1 : ((coupletref04_Same.f kj91 x6_91 x7_91 t380 t381).bind fun t395 => (if t395 = true then (if (t387 == (wrap64 (-a0_0)) && (t388 == a0_1 && (!t389))) = true then ((coupletlaw04_awake.f kj91).bind fun t396 => (some t396)) else (some false)) else (some false))) = some r := by rw [if_neg (show ¬ (false = true) by decide)] at H; exact H
                clear H
                have H := H1
                clear H1
                replace H := Option.bind_eq_some_iff.mp H
                obtain ⟨t395, A1260, H⟩ := H
                replace H : (if t395 = true then (if (t387 == (wrap64 (-a0_0)) && (t388 == a0_1 && (!t389))) = true then ((coupletlaw04_awake.f kj91).bind fun t396 => (some t396)) else (some false)) else (some false)) = some r := H
                have A126 := Aside0.mk A1260
                clear A1260
                by_cases c127 : t395 = true
                · subst c127
                  have H1 : (if (t387 == (wrap64 (-a0_0)) && (t388 == a0_1 && (!t389))) = true then ((coupletlaw04_awake.f kj91).bind fun t396 => (some t396)) else (some false)) = some r := by rw [if_pos rfl] at H; exact H
                  clear H
                  have H := H1
                  clear H1
                  by_cases c128 : (t387 == (wrap64 (-a0_0)) && (t388 == a0_1 && (!t389))) = true
                  · rw [if_pos c128] at H
                    have c128b0 : (t387 == (wrap64 (-a0_0)) && (t388 == a0_1 && (!t389))) = true := c128
                    (try (have c128b1 : decide (t387 = (wrap64 (-a0_0)) && (t388 == a0_1 && (!t389))) = true := by simpa using c128))
                    (try (have c128b2 : (t387 == (wrap64 (-a0_0)) && (t388 == a0_1 && (!t389))) = true := by simpa using c128))
                    clear c128
                    replace H := Option.bind_eq_some_iff.mp H
                    obtain ⟨t396, A1290, H⟩ := H
                    replace H : (some t396) = some r := H
                    have A129 := Aside0.mk A1290
                    clear A1290
                    obtain rfl := Option.some.inj H
                    have hnb130 := NB378_379.out
                    have hnc130 := NB379_378.out
                    have hnb131 := NB378_383.out
                    have hnc131 := NB383_378.out
                    have hcz132_0 : wc.cell? ⟨gb378, 0, none⟩ = some (.int .i64 a0_0) := (blk_cell BK378.out 0).trans rfl
                    have hcz132_1 : wc.cell? ⟨gb378, 1, none⟩ = some (.int .i64 a0_1) := (blk_cell BK378.out 1).trans rfl
                    have hcz132_2 : wc.cell? ⟨gb378, 2, none⟩ = some (.bool a0_2) := (blk_cell BK378.out 2).trans rfl
                    have hfz132_0 := blk_frozen BK378.out 0
                    have hfz132_1 := blk_frozen BK378.out 1
                    have hfz132_2 := blk_frozen BK378.out 2
                    try go_wp2_with (first | ((with_reducible refine gate_callee (f := 18) rfl ?_); refine goesL_ (some 87) rfl rfl Try.func18 (by kernel_rfl) rfl #[.agg #[.int .i64 a0_0, .int .i64 a0_1, .bool a0_2]] rfl (by (try simp only [List.map_toArray, List.map_cons, List.map_nil]); first | done | rfl | (simp only [List.length_drop, List.length_take]; rfl)) ?_; (with_reducible refine (frac_Frac_Neg.calls kj91 a0_0 a0_1 a0_2 t387 t388 t389 _ A95.out).mono ?_); rintro e w133 ⟨rfl, hb⟩; refine ⟨_, rfl, ?_⟩; have n0_ := Aside0.mk (blk_below (g := gb378) (o := .cells #[.int .i64 a0_0, .int .i64 a0_1, .bool a0_2] 23 (0, 0)) (by (with_reducible repeat (first | refine blk_drewN ?_ _ | refine blk_drew ?_ | refine blk_alloc ?_ _)); exact BK378.out) hb); have n1_ := Aside0.mk (blk_below (g := gb379) (o := .cells #[.int .i64 a1_0, .int .i64 a1_1, .bool a1_2] 23 (0, 0)) (by (with_reducible repeat (first | refine blk_drewN ?_ _ | refine blk_drew ?_ | refine blk_alloc ?_ _)); exact BK379.out) hb); have n2_ := Aside0.mk (blk_below (g := gb383) (o := .cells #[.int .i64 t380, .int .i64 t381, .bool false] 23 (0, 0)) (by (with_reducible repeat (first | refine blk_drewN ?_ _ | refine blk_drew ?_ | refine blk_alloc ?_ _)); exact BK383.out) hb); have n3_ := Aside0.mk (below_step (by repeat (first | (with_reducible first | exact HB.out | apply below_alloc | apply pw_below_drewN | apply below_drew1 | refine below_set ?_ GE378.out | refine below_set ?_ GE379.out | refine below_set ?_ GE383.out) | exact HB.out)) hb); clear BK378; clear BK379; clear BK383; clear HB; have BK378 := n0_; have BK379 := n1_; have BK383 := n2_; have HB := n3_; clear n0_ n1_ n2_ n3_; (try clear hb); (try clear hb2); (try clear hk); (try clear hi)) | ((with_reducible refine gate_dst (N := 8) rfl ?_); refine box_event ?hg (N := 8) ?hd (cs := #[.int .i64 0, .int .i64 0, .bool false]) (t := 23) ?hr ?_; (case hd => rfl); (case hg => rfl); (case hr => first | (go_simp; done) | (go_simp; rfl)); intro gb390 hg w134 hbox hb; have n0_ := Aside0.mk (blk_below (g := gb378) (o := .cells #[.int .i64 a0_0, .int .i64 a0_1, .bool a0_2] 23 (0, 0)) (by (with_reducible repeat (first | refine blk_drewN ?_ _ | refine blk_drew ?_ | refine blk_alloc ?_ _)); exact BK378.out) hb); have n1_ := Aside0.mk (blk_below (g := gb379) (o := .cells #[.int .i64 a1_0, .int .i64 a1_1, .bool a1_2] 23 (0, 0)) (by (with_reducible repeat (first | refine blk_drewN ?_ _ | refine blk_drew ?_ | refine blk_alloc ?_ _)); exact BK379.out) hb); have n2_ := Aside0.mk (blk_below (g := gb383) (o := .cells #[.int .i64 t380, .int .i64 t381, .bool false] 23 (0, 0)) (by (with_reducible repeat (first | refine blk_drewN ?_ _ | refine blk_drew ?_ | refine blk_alloc ?_ _)); exact BK383.out) hb); have n3_ := Aside0.mk (below_step (by repeat (first | (with_reducible first | exact HB.out | apply below_alloc | apply pw_below_drewN | apply below_drew1 | refine below_set ?_ GE378.out | refine below_set ?_ GE379.out | refine below_set ?_ GE383.out) | exact HB.out)) hb); have n4_ := Aside0.mk (hbox); have n5_ := Aside0.mk ((by rw [hg]; exact (below_size (by repeat (first | (with_reducible first | exact HB.out | apply below_alloc | apply pw_below_drewN | apply below_drew1 | refine below_set ?_ GE378.out | refine below_set ?_ GE379.out | refine below_set ?_ GE383.out) | exact HB.out))) : w.heap.size ≤ gb390)); have n6_ := Aside0.mk ((by rw [hg]; exact (below_size (by repeat (first | (with_reducible first | exact HB.out | apply below_alloc | apply pw_below_drewN | apply below_drew1 | refine below_set ?_ GE378.out | refine below_set ?_ GE379.out | refine below_set ?_ GE383.out) | exact HB.out))) : w.heap.size ≤ gb390)); have n7_ := Aside0.mk ((by rw [hg]; exact Nat.ne_of_lt (blk_lt (g := gb378) (o := .cells #[.int .i64 a0_0, .int .i64 a0_1, .bool a0_2] 23 (0, 0)) (by (with_reducible repeat (first | refine blk_drewN ?_ _ | refine blk_drew ?_ | refine blk_alloc ?_ _)); exact BK378.out)) : gb378 ≠ gb390)); have n8_ := Aside0.mk ((by rw [hg]; exact Nat.ne_of_gt (blk_lt (g := gb378) (o := .cells #[.int .i64 a0_0, .int .i64 a0_1, .bool a0_2] 23 (0, 0)) (by (with_reducible repeat (first | refine blk_drewN ?_ _ | refine blk_drew ?_ | refine blk_alloc ?_ _)); exact BK378.out)) : gb390 ≠ gb378)); have n9_ := Aside0.mk ((by rw [hg]; exact Nat.ne_of_lt (blk_lt (g := gb379) (o := .cells #[.int .i64 a1_0, .int .i64 a1_1, .bool a1_2] 23 (0, 0)) (by (with_reducible repeat (first | refine blk_drewN ?_ _ | refine blk_drew ?_ | refine blk_alloc ?_ _)); exact BK379.out)) : gb379 ≠ gb390)); have n10_ := Aside0.mk ((by rw [hg]; exact Nat.ne_of_gt (blk_lt (g := gb379) (o := .cells #[.int .i64 a1_0, .int .i64 a1_1, .bool a1_2] 23 (0, 0)) (by (with_reducible repeat (first | refine blk_drewN ?_ _ | refine blk_drew ?_ | refine blk_alloc ?_ _)); exact BK379.out)) : gb390 ≠ gb379)); have n11_ := Aside0.mk ((by rw [hg]; exact Nat.ne_of_lt (blk_lt (g := gb383) (o := .cells #[.int .i64 t380, .int .i64 t381, .bool false] 23 (0, 0)) (by (with_reducible repeat (first | refine blk_drewN ?_ _ | refine blk_drew ?_ | refine blk_alloc ?_ _)); exact BK383.out)) : gb383 ≠ gb390)); have n12_ := Aside0.mk ((by rw [hg]; exact Nat.ne_of_gt (blk_lt (g := gb383) (o := .cells #[.int .i64 t380, .int .i64 t381, .bool false] 23 (0, 0)) (by (with_reducible repeat (first | refine blk_drewN ?_ _ | refine blk_drew ?_ | refine blk_alloc ?_ _)); exact BK383.out)) : gb390 ≠ gb383)); clear BK378; clear BK379; clear BK383; clear HB; have BK378 := n0_; have BK379 := n1_; have BK383 := n2_; have HB := n3_; have BK390 := n4_; have GW390 := n5_; have GE390 := n6_; have NB378_390 := n7_; have NB390_378 := n8_; have NB379_390 := n9_; have NB390_379 := n10_; have NB383_390 := n11_; have NB390_383 := n12_; clear n0_ n1_ n2_ n3_ n4_ n5_ n6_ n7_ n8_ n9_ n10_ n11_ n12_; clear hb hbox hg; have hnb135 := NB390_378.out; have hnc135 := NB378_390.out; have hnb136 := NB390_379.out; have hnc136 := NB379_390.out; have hnb137 := NB390_383.out; have hnc137 := NB383_390.out; have hcz138_0 : w134.cell? ⟨gb390, 0, none⟩ = some (.int .i64 0) := (blk_cell BK390.out 0).trans rfl; have hcz138_1 : w134.cell? ⟨gb390, 1, none⟩ = some (.int .i64 0) := (blk_cell BK390.out 1).trans rfl; have hcz138_2 : w134.cell? ⟨gb390, 2, none⟩ = some (.bool false) := (blk_cell BK390.out 2).trans rfl; have hfz138_0 := blk_frozen BK390.out 0; have hfz138_1 := blk_frozen BK390.out 1; have hfz138_2 := blk_frozen BK390.out 2))
                    have n0_ : Aside0 ((((w134.setCell ⟨gb390, 0, none⟩ (.int .i64 t387)).setCell ⟨gb390, 1, none⟩ (.int .i64 t388)).setCell ⟨gb390, 2, none⟩ (.bool t389)).heap[gb378]? = some (.cells #[.int .i64 a0_0, .int .i64 a0_1, .bool a0_2] 23 (0, 0))) := ⟨by (with_reducible repeat (first | refine blk_drewN ?_ _ | refine blk_drew ?_ | refine blk_alloc ?_ _)); refine blk_far ?_ NB378_390.out _; (with_reducible repeat (first | refine blk_drewN ?_ _ | refine blk_drew ?_ | refine blk_alloc ?_ _)); refine blk_far ?_ NB378_390.out _; (with_reducible repeat (first | refine blk_drewN ?_ _ | refine blk_drew ?_ | refine blk_alloc ?_ _)); refine blk_far ?_ NB378_390.out _; (with_reducible repeat (first | refine blk_drewN ?_ _ | refine blk_drew ?_ | refine blk_alloc ?_ _)); exact BK378.out⟩
                    have n1_ : Aside0 ((((w134.setCell ⟨gb390, 0, none⟩ (.int .i64 t387)).setCell ⟨gb390, 1, none⟩ (.int .i64 t388)).setCell ⟨gb390, 2, none⟩ (.bool t389)).heap[gb379]? = some (.cells #[.int .i64 a1_0, .int .i64 a1_1, .bool a1_2] 23 (0, 0))) := ⟨by (with_reducible repeat (first | refine blk_drewN ?_ _ | refine blk_drew ?_ | refine blk_alloc ?_ _)); refine blk_far ?_ NB379_390.out _; (with_reducible repeat (first | refine blk_drewN ?_ _ | refine blk_drew ?_ | refine blk_alloc ?_ _)); refine blk_far ?_ NB379_390.out _; (with_reducible repeat (first | refine blk_drewN ?_ _ | refine blk_drew ?_ | refine blk_alloc ?_ _)); refine blk_far ?_ NB379_390.out _; (with_reducible repeat (first | refine blk_drewN ?_ _ | refine blk_drew ?_ | refine blk_alloc ?_ _)); exact BK379.out⟩
                    have n2_ : Aside0 ((((w134.setCell ⟨gb390, 0, none⟩ (.int .i64 t387)).setCell ⟨gb390, 1, none⟩ (.int .i64 t388)).setCell ⟨gb390, 2, none⟩ (.bool t389)).heap[gb383]? = some (.cells #[.int .i64 t380, .int .i64 t381, .bool false] 23 (0, 0))) := ⟨by (with_reducible repeat (first | refine blk_drewN ?_ _ | refine blk_drew ?_ | refine blk_alloc ?_ _)); refine blk_far ?_ NB383_390.out _; (with_reducible repeat (first | refine blk_drewN ?_ _ | refine blk_drew ?_ | refine blk_alloc ?_ _)); refine blk_far ?_ NB383_390.out _; (with_reducible repeat (first | refine blk_drewN ?_ _ | refine blk_drew ?_ | refine blk_alloc ?_ _)); refine blk_far ?_ NB383_390.out _; (with_reducible repeat (first | refine blk_drewN ?_ _ | refine blk_drew ?_ | refine blk_alloc ?_ _)); exact BK383.out⟩
                    have n3_ : Aside0 ((((w134.setCell ⟨gb390, 0, none⟩ (.int .i64 t387)).setCell ⟨gb390, 1, none⟩ (.int .i64 t388)).setCell ⟨gb390, 2, none⟩ (.bool t389)).heap[gb390]? = some (.cells #[.int .i64 t387, .int .i64 t388, .bool t389] 23 (0, 0))) := ⟨by (with_reducible repeat (first | refine blk_drewN ?_ _ | refine blk_drew ?_ | refine blk_alloc ?_ _)); refine blk_put (cs := #[.int .i64 t387, .int .i64 t388, .bool false]) ?_ 2 _ rfl; (with_reducible repeat (first | refine blk_drewN ?_ _ | refine blk_drew ?_ | refine blk_alloc ?_ _)); refine blk_put (cs := #[.int .i64 t387, .int .i64 0, .bool false]) ?_ 1 _ rfl; (with_reducible repeat (first | refine blk_drewN ?_ _ | refine blk_drew ?_ | refine blk_alloc ?_ _)); refine blk_put (cs := #[.int .i64 0, .int .i64 0, .bool false]) ?_ 0 _ rfl; (with_reducible repeat (first | refine blk_drewN ?_ _ | refine blk_drew ?_ | refine blk_alloc ?_ _)); exact BK390.out⟩
                    have n4_ : Aside0 (Below w.heap.size w (((w134.setCell ⟨gb390, 0, none⟩ (.int .i64 t387)).setCell ⟨gb390, 1, none⟩ (.int .i64 t388)).setCell ⟨gb390, 2, none⟩ (.bool t389))) := ⟨by repeat (first | (with_reducible first | exact HB.out | apply below_alloc | apply pw_below_drewN | apply below_drew1 | refine below_set ?_ GE378.out | refine below_set ?_ GE379.out | refine below_set ?_ GE383.out | refine below_set ?_ GE390.out) | exact HB.out)⟩
                    (try clear BK378)
                    (try clear BK379)
                    (try clear BK383)
                    (try clear BK390)
                    (try clear HB)
                    generalize (((w134.setCell ⟨gb390, 0, none⟩ (.int .i64 t387)).setCell ⟨gb390, 1, none⟩ (.int .i64 t388)).setCell ⟨gb390, 2, none⟩ (.bool t389)) = w139 at n0_ n1_ n2_ n3_ n4_ ⊢
                    have BK378 := n0_
                    have BK379 := n1_
                    have BK383 := n2_
                    have BK390 := n3_
                    have HB := n4_
                    clear n0_ n1_ n2_ n3_ n4_
                    have n0_ := Aside0.mk (blk_drew BK378.out)
                    have n1_ := Aside0.mk (blk_drew BK379.out)
                    have n2_ := Aside0.mk (blk_drew BK383.out)
                    have n3_ := Aside0.mk (blk_drew BK390.out)
                    have n4_ := Aside0.mk (below_drew1 HB.out)
                    clear BK378
                    clear BK379
                    clear BK383
                    clear BK390
                    clear HB
                    have BK378 := n0_
                    have BK379 := n1_
                    have BK383 := n2_
                    have BK390 := n3_
                    have HB := n4_
                    clear n0_ n1_ n2_ n3_ n4_
                    refine start_ (n := 32) (S := fun w' => w'.cell? ⟨gb383, 0, none⟩ = some (.int .i64 t380) ∧ w'.cell? ⟨gb383, 1, none⟩ = some (.int .i64 t381) ∧ w'.cell? ⟨gb383, 2, none⟩ = some (.bool false) ∧ w'.cell? ⟨gb390, 0, none⟩ = some (.int .i64 t387) ∧ w'.cell? ⟨gb390, 1, none⟩ = some (.int .i64 t388) ∧ w'.cell? ⟨gb390, 2, none⟩ = some (.bool t389) ∧ w'.cell? ⟨gb378, 0, none⟩ = some (.int .i64 a0_0) ∧ w'.cell? ⟨gb378, 1, none⟩ = some (.int .i64 a0_1) ∧ w'.cell? ⟨gb378, 2, none⟩ = some (.bool a0_2)) (ds := []) #[false, false, false, false, false, false, false, false, false, false, false, false, false, false, false, false, false, false, false, false, false, false, false, false, false, false, false, false, false, false, false, false] (by kernel_rfl) rfl rfl ⟨(blk_cell BK383.out 0).trans rfl, (blk_cell BK383.out 1).trans rfl, (blk_cell BK383.out 2).trans rfl, (blk_cell BK390.out 0).trans rfl, (blk_cell BK390.out 1).trans rfl, (blk_cell BK390.out 2).trans rfl, (blk_cell BK378.out 0).trans rfl, (blk_cell BK378.out 1).trans rfl, (blk_cell BK378.out 2).trans rfl⟩ (fun hHeld => ?_); refine with_tabW coupletlaw04_FracQuotients.tab8 coupletlaw04_FracQuotients.bits8 (fun HT_ HW_ => ?_)
                    generalize w139.drew = w140 at BK378 BK379 BK383 BK390 HB hHeld ⊢
                    refine pure_ (i := 1) (N := some 89) (v := ?_) (a' := ?_) #[false, true, false, false, false, false, false, false, false, false, false, false, false, false, false, false, false, false, false, false, false, false, false, false, false, false, false, false, false, false, false, false] rfl rfl (any_of HT_.out (by kernel_rfl)) (fun _ _ _ h => h) (Or.inl ⟨by rfl, ?_⟩) ?_ ?_
                    rotate_left
                    · intro w'
                      go_simp
                      with_reducible rfl
                    rotate_left
                    · simp only [Act.put, List.setIfInBounds_toArray, List.set_cons_zero, List.set_cons_succ, i64_w, i32_w]
                      rfl
                    refine pure_ (i := 2) (N := some 90) (v := ?_) (a' := ?_) #[false, true, true, false, false, false, false, false, false, false, false, false, false, false, false, false, false, false, false, false, false, false, false, false, false, false, false, false, false, false, false, false] rfl rfl (any_of HT_.out (by kernel_rfl)) (fun _ _ _ h => h) (Or.inl ⟨by rfl, ?_⟩) ?_ ?_
                    rotate_left
                    · intro w'
                      go_simp
                      with_reducible rfl
                    rotate_left
                    · simp only [Act.put, List.setIfInBounds_toArray, List.set_cons_zero, List.set_cons_succ, i64_w, i32_w]
                      rfl
                    refine take_ (i := 0) (N := some 88) (v := ?_) (a' := ?_) #[true, true, true, false, false, false, false, false, false, false, false, false, false, false, false, false, false, false, false, false, false, false, false, false, false, false, false, false, false, false, false, false] rfl rfl (take_ofW HT_.out HW_.out (by kernel_rfl)) (fun _ _ _ h => h) (Or.inl ⟨by rfl, ?_⟩) hHeld ?_ ?_
                    rotate_left
                    · rintro w' ⟨s0, s1, s2, s3, s4, s5, s6, s7, s8⟩
                      go_simp
                      with_reducible rfl
                    rotate_left
                    · simp only [Act.put, List.setIfInBounds_toArray, List.set_cons_zero, List.set_cons_succ, i64_w, i32_w]
                      rfl
                    refine one_ (i := 3) (N := some 91) #[true, true, true, true, false, false, false, false, false, false, false, false, false, false, false, false, false, false, false, false, false, false, false, false, false, false, false, false, false, false, false, false] rfl rfl (one_of HT_.out (by kernel_rfl)) (by decide) (fun K hK => ?_)
                    refine goes_ Try.func10 (by kernel_rfl) rfl #[.int .i64 x6_91, .int .i64 x7_91] (by rfl) rfl rfl (by (try simp only [List.map_toArray, List.map_cons, List.map_nil]); first | done | rfl | (simp only [List.length_drop, List.length_take]; rfl)) ?_
                    with_reducible refine (frac_New.calls kj91 x6_91 x7_91 t380 t381 false _ A96.out).mono ?_
                    rintro e w141 ⟨rfl, hb⟩
                    refine ⟨_, rfl, ?_⟩
                    have n0_ := Aside0.mk (blk_below (g := gb378) (o := .cells #[.int .i64 a0_0, .int .i64 a0_1, .bool a0_2] 23 (0, 0)) (by (with_reducible repeat (first | refine blk_drewN ?_ _ | refine blk_drew ?_ | refine blk_alloc ?_ _)); exact BK378.out) hb)
                    have n1_ := Aside0.mk (blk_below (g := gb379) (o := .cells #[.int .i64 a1_0, .int .i64 a1_1, .bool a1_2] 23 (0, 0)) (by (with_reducible repeat (first | refine blk_drewN ?_ _ | refine blk_drew ?_ | refine blk_alloc ?_ _)); exact BK379.out) hb)
                    have n2_ := Aside0.mk (blk_below (g := gb383) (o := .cells #[.int .i64 t380, .int .i64 t381, .bool false] 23 (0, 0)) (by (with_reducible repeat (first | refine blk_drewN ?_ _ | refine blk_drew ?_ | refine blk_alloc ?_ _)); exact BK383.out) hb)
                    have n3_ := Aside0.mk (blk_below (g := gb390) (o := .cells #[.int .i64 t387, .int .i64 t388, .bool t389] 23 (0, 0)) (by (with_reducible repeat (first | refine blk_drewN ?_ _ | refine blk_drew ?_ | refine blk_alloc ?_ _)); exact BK390.out) hb)
                    have n4_ := Aside0.mk (below_step (by repeat (first | (with_reducible first | exact HB.out | apply below_alloc | apply pw_below_drewN | apply below_drew1 | refine below_set ?_ GE378.out | refine below_set ?_ GE379.out | refine below_set ?_ GE383.out | refine below_set ?_ GE390.out) | exact HB.out)) hb)
                    clear BK378
                    clear BK379
                    clear BK383
                    clear BK390
                    clear HB
                    have BK378 := n0_
                    have BK379 := n1_
                    have BK383 := n2_
                    have BK390 := n3_
                    have HB := n4_
                    clear n0_ n1_ n2_ n3_ n4_
                    (try clear hb)
                    (try clear hb2)
                    (try clear hk)
                    (try clear hi)
                    refine hK.out _ _ ⟨(blk_cell BK383.out 0).trans rfl, (blk_cell BK383.out 1).trans rfl, (blk_cell BK383.out 2).trans rfl, (blk_cell BK390.out 0).trans rfl, (blk_cell BK390.out 1).trans rfl, (blk_cell BK390.out 2).trans rfl, (blk_cell BK378.out 0).trans rfl, (blk_cell BK378.out 1).trans rfl, (blk_cell BK378.out 2).trans rfl⟩ (fun hHeld => ?_)
                    clear hK K
                    refine norm_ (a' := ?_) ?_ ?_
                    rotate_left
                    · show Act.put _ (some 91) _ = _
                      simp only [Act.put, List.setIfInBounds_toArray, List.set_cons_zero, List.set_cons_succ, i64_w, i32_w]
                      rfl
                    refine pure_ (i := 4) (N := some 92) (v := ?_) (a' := ?_) #[true, true, true, true, true, false, false, false, false, false, false, false, false, false, false, false, false, false, false, false, false, false, false, false, false, false, false, false, false, false, false, false] rfl rfl (any_of HT_.out (by kernel_rfl)) (fun _ _ _ h => h) (Or.inl ⟨by rfl, ?_⟩) ?_ ?_
                    rotate_left
                    · intro w'
                      go_simp
                      with_reducible rfl
                    rotate_left
                    · simp only [Act.put, List.setIfInBounds_toArray, List.set_cons_zero, List.set_cons_succ, i64_w, i32_w]
                      rfl
                    refine pure_ (i := 5) (N := some 93) (v := ?_) (a' := ?_) #[true, true, true, true, true, true, false, false, false, false, false, false, false, false, false, false, false, false, false, false, false, false, false, false, false, false, false, false, false, false, false, false] rfl rfl (any_of HT_.out (by kernel_rfl)) (fun _ _ _ h => h) (Or.inl ⟨by rfl, ?_⟩) ?_ ?_
                    rotate_left
                    · intro w'
                      go_simp
                      with_reducible rfl
                    rotate_left
                    · simp only [Act.put, List.setIfInBounds_toArray, List.set_cons_zero, List.set_cons_succ, i64_w, i32_w]
                      rfl
                    refine pure_ (i := 6) (N := some 94) (v := ?_) (a' := ?_) #[true, true, true, true, true, true, true, false, false, false, false, false, false, false, false, false, false, false, false, false, false, false, false, false, false, false, false, false, false, false, false, false] rfl rfl (any_of HT_.out (by kernel_rfl)) (fun _ _ _ h => h) (Or.inl ⟨by rfl, ?_⟩) ?_ ?_
                    rotate_left
                    · intro w'
                      go_simp
                      with_reducible rfl
                    rotate_left
                    · simp only [Act.put, List.setIfInBounds_toArray, List.set_cons_zero, List.set_cons_succ, i64_w, i32_w]
                      rfl
                    refine take_ (i := 7) (N := some 95) (v := ?_) (a' := ?_) #[true, true, true, true, true, true, true, true, false, false, false, false, false, false, false, false, false, false, false, false, false, false, false, false, false, false, false, false, false, false, false, false] rfl rfl (take_ofW HT_.out HW_.out (by kernel_rfl)) (fun _ _ _ h => h) (Or.inl ⟨by rfl, ?_⟩) hHeld ?_ ?_
                    rotate_left
                    · rintro w' ⟨s0, s1, s2, s3, s4, s5, s6, s7, s8⟩
                      go_simp
                      with_reducible rfl
                    rotate_left
                    · simp only [Act.put, List.setIfInBounds_toArray, List.set_cons_zero, List.set_cons_succ, i64_w, i32_w]
                      rfl
                    refine pure_ (i := 8) (N := some 96) (v := ?_) (a' := ?_) #[true, true, true, true, true, true, true, true, true, false, false, false, false, false, false, false, false, false, false, false, false, false, false, false, false, false, false, false, false, false, false, false] rfl rfl (any_of HT_.out (by kernel_rfl)) (fun _ _ _ h => h) (Or.inl ⟨by rfl, ?_⟩) ?_ ?_
                    rotate_left
                    · intro w'
                      go_simp
                      with_reducible rfl
                    rotate_left
                    · simp only [Act.put, List.setIfInBounds_toArray, List.set_cons_zero, List.set_cons_succ, i64_w, i32_w]
                      rfl
                    refine pure_ (i := 9) (N := some 97) (v := ?_) (a' := ?_) #[true, true, true, true, true, true, true, true, true, true, false, false, false, false, false, false, false, false, false, false, false, false, false, false, false, false, false, false, false, false, false, false] rfl rfl (any_of HT_.out (by kernel_rfl)) (fun _ _ _ h => h) (Or.inl ⟨by rfl, ?_⟩) ?_ ?_
                    rotate_left
                    · intro w'
                      go_simp
                      with_reducible rfl
                    rotate_left
                    · simp only [Act.put, List.setIfInBounds_toArray, List.set_cons_zero, List.set_cons_succ, i64_w, i32_w]
                      rfl
                    refine pure_ (i := 10) (N := some 98) (v := ?_) (a' := ?_) #[true, true, true, true, true, true, true, true, true, true, true, false, false, false, false, false, false, false, false, false, false, false, false, false, false, false, false, false, false, false, false, false] rfl rfl (any_of HT_.out (by kernel_rfl)) (fun _ _ _ h => h) (Or.inl ⟨by rfl, ?_⟩) ?_ ?_
                    rotate_left
                    · intro w'
                      go_simp
                      with_reducible rfl
                    rotate_left
                    · simp only [Act.put, List.setIfInBounds_toArray, List.set_cons_zero, List.set_cons_succ, i64_w, i32_w]
                      rfl
                    refine pure_ (i := 11) (N := some 99) (v := ?_) (a' := ?_) #[true, true, true, true, true, true, true, true, true, true, true, true, false, false, false, false, false, false, false, false, false, false, false, false, false, false, false, false, false, false, false, false] rfl rfl (any_of HT_.out (by kernel_rfl)) (fun _ _ _ h => h) (Or.inl ⟨by rfl, ?_⟩) ?_ ?_
                    rotate_left
                    · intro w'
                      go_simp
                      with_reducible rfl
                    rotate_left
                    · simp only [Act.put, List.setIfInBounds_toArray, List.set_cons_zero, List.set_cons_succ, i64_w, i32_w]
                      rfl
                    refine pure_ (i := 13) (N := some 101) (v := ?_) (a' := ?_) #[true, true, true, true, true, true, true, true, true, true, true, true, false, true, false, false, false, false, false, false, false, false, false, false, false, false, false, false, false, false, false, false] rfl rfl (any_of HT_.out (by kernel_rfl)) (fun _ _ _ h => h) (Or.inl ⟨by rfl, ?_⟩) ?_ ?_
                    rotate_left
                    · intro w'
                      go_simp
                      with_reducible rfl
                    rotate_left
                    · simp only [Act.put, List.setIfInBounds_toArray, List.set_cons_zero, List.set_cons_succ, i64_w, i32_w]
                      rfl
                    refine take_ (i := 12) (N := some 100) (v := ?_) (a' := ?_) #[true, true, true, true, true, true, true, true, true, true, true, true, true, true, false, false, false, false, false, false, false, false, false, false, false, false, false, false, false, false, false, false] rfl rfl (take_ofW HT_.out HW_.out (by kernel_rfl)) (fun _ _ _ h => h) (Or.inl ⟨by rfl, ?_⟩) hHeld ?_ ?_
                    rotate_left
                    · rintro w' ⟨s0, s1, s2, s3, s4, s5, s6, s7, s8⟩
                      go_simp
                      with_reducible rfl
                    rotate_left
                    · simp only [Act.put, List.setIfInBounds_toArray, List.set_cons_zero, List.set_cons_succ, i64_w, i32_w]
                      rfl
                    refine take_ (i := 14) (N := some 102) (v := ?_) (a' := ?_) #[true, true, true, true, true, true, true, true, true, true, true, true, true, true, true, false, false, false, false, false, false, false, false, false, false, false, false, false, false, false, false, false] rfl rfl (take_ofW HT_.out HW_.out (by kernel_rfl)) (fun _ _ _ h => h) (Or.inl ⟨by rfl, ?_⟩) hHeld ?_ ?_
                    rotate_left
                    · rintro w' ⟨s0, s1, s2, s3, s4, s5, s6, s7, s8⟩
                      go_simp
                      with_reducible rfl
                    rotate_left
                    · simp only [Act.put, List.setIfInBounds_toArray, List.set_cons_zero, List.set_cons_succ, i64_w, i32_w]
                      rfl
                    refine one_ (i := 15) (N := some 103) #[true, true, true, true, true, true, true, true, true, true, true, true, true, true, true, true, false, false, false, false, false, false, false, false, false, false, false, false, false, false, false, false] rfl rfl (one_of HT_.out (by kernel_rfl)) (by decide) (fun K hK => ?_)
                    refine goes_ Try.func15 (by kernel_rfl) rfl #[.int .i64 x6_91, .int .i64 x7_91, .int .i64 t380, .int .i64 t381] (by rfl) rfl rfl (by (try simp only [List.map_toArray, List.map_cons, List.map_nil]); first | done | rfl | (simp only [List.length_drop, List.length_take]; rfl)) ?_
                    with_reducible refine (coupletref04_Same.calls kj91 x6_91 x7_91 t380 t381 true _ A126.out).mono ?_
                    rintro e w142 ⟨rfl, hb⟩
                    refine ⟨_, rfl, ?_⟩
                    have n0_ := Aside0.mk (blk_below (g := gb378) (o := .cells #[.int .i64 a0_0, .int .i64 a0_1, .bool a0_2] 23 (0, 0)) (by (with_reducible repeat (first | refine blk_drewN ?_ _ | refine blk_drew ?_ | refine blk_alloc ?_ _)); exact BK378.out) hb)
                    have n1_ := Aside0.mk (blk_below (g := gb379) (o := .cells #[.int .i64 a1_0, .int .i64 a1_1, .bool a1_2] 23 (0, 0)) (by (with_reducible repeat (first | refine blk_drewN ?_ _ | refine blk_drew ?_ | refine blk_alloc ?_ _)); exact BK379.out) hb)
                    have n2_ := Aside0.mk (blk_below (g := gb383) (o := .cells #[.int .i64 t380, .int .i64 t381, .bool false] 23 (0, 0)) (by (with_reducible repeat (first | refine blk_drewN ?_ _ | refine blk_drew ?_ | refine blk_alloc ?_ _)); exact BK383.out) hb)
                    have n3_ := Aside0.mk (blk_below (g := gb390) (o := .cells #[.int .i64 t387, .int .i64 t388, .bool t389] 23 (0, 0)) (by (with_reducible repeat (first | refine blk_drewN ?_ _ | refine blk_drew ?_ | refine blk_alloc ?_ _)); exact BK390.out) hb)
                    have n4_ := Aside0.mk (below_step (by repeat (first | (with_reducible first | exact HB.out | apply below_alloc | apply pw_below_drewN | apply below_drew1 | refine below_set ?_ GE378.out | refine below_set ?_ GE379.out | refine below_set ?_ GE383.out | refine below_set ?_ GE390.out) | exact HB.out)) hb)
                    clear BK378
                    clear BK379
                    clear BK383
                    clear BK390
                    clear HB
                    have BK378 := n0_
                    have BK379 := n1_
                    have BK383 := n2_
                    have BK390 := n3_
                    have HB := n4_
                    clear n0_ n1_ n2_ n3_ n4_
                    (try clear hb)
                    (try clear hb2)
                    (try clear hk)
                    (try clear hi)
                    refine hK.out _ _ ⟨(blk_cell BK383.out 0).trans rfl, (blk_cell BK383.out 1).trans rfl, (blk_cell BK383.out 2).trans rfl, (blk_cell BK390.out 0).trans rfl, (blk_cell BK390.out 1).trans rfl, (blk_cell BK390.out 2).trans rfl, (blk_cell BK378.out 0).trans rfl, (blk_cell BK378.out 1).trans rfl, (blk_cell BK378.out 2).trans rfl⟩ (fun hHeld => ?_)
                    clear hK K
                    refine norm_ (a' := ?_) ?_ ?_
                    rotate_left
                    · show Act.put _ (some 103) _ = _
                      simp only [Act.put, List.setIfInBounds_toArray, List.set_cons_zero, List.set_cons_succ, i64_w, i32_w]
                      rfl
                    refine pure_ (i := 16) (N := some 104) (v := ?_) (a' := ?_) #[true, true, true, true, true, true, true, true, true, true, true, true, true, true, true, true, true, false, false, false, false, false, false, false, false, false, false, false, false, false, false, false] rfl rfl (any_of HT_.out (by kernel_rfl)) (fun _ _ _ h => h) (Or.inl ⟨by rfl, ?_⟩) ?_ ?_
                    rotate_left
                    · intro w'
                      go_simp
                      with_reducible rfl
                    rotate_left
                    · simp only [Act.put, List.setIfInBounds_toArray, List.set_cons_zero, List.set_cons_succ, i64_w, i32_w]
                      rfl
                    refine pure_ (i := 17) (N := some 105) (v := ?_) (a' := ?_) #[true, true, true, true, true, true, true, true, true, true, true, true, true, true, true, true, true, true, false, false, false, false, false, false, false, false, false, false, false, false, false, false] rfl rfl (any_of HT_.out (by kernel_rfl)) (fun _ _ _ h => h) (Or.inl ⟨by rfl, ?_⟩) ?_ ?_
                    rotate_left
                    · intro w'
                      go_simp
                      with_reducible rfl
                    rotate_left
                    · simp only [Act.put, List.setIfInBounds_toArray, List.set_cons_zero, List.set_cons_succ, i64_w, i32_w]
                      rfl
                    refine pure_ (i := 18) (N := some 106) (v := ?_) (a' := ?_) #[true, true, true, true, true, true, true, true, true, true, true, true, true, true, true, true, true, true, true, false, false, false, false, false, false, false, false, false, false, false, false, false] rfl rfl (any_of HT_.out (by kernel_rfl)) (fun _ _ _ h => h) (Or.inl ⟨by rfl, ?_⟩) ?_ ?_
                    rotate_left
                    · intro w'
                      go_simp
                      with_reducible rfl
                    rotate_left
                    · simp only [Act.put, List.setIfInBounds_toArray, List.set_cons_zero, List.set_cons_succ, i64_w, i32_w]
                      rfl
                    refine pure_ (i := 20) (N := some 108) (v := ?_) (a' := ?_) #[true, true, true, true, true, true, true, true, true, true, true, true, true, true, true, true, true, true, true, false, true, false, false, false, false, false, false, false, false, false, false, false] rfl rfl (any_of HT_.out (by kernel_rfl)) (fun _ _ _ h => h) (Or.inl ⟨by rfl, ?_⟩) ?_ ?_
                    rotate_left
                    · intro w'
                      go_simp
                      with_reducible rfl
                    rotate_left
                    · simp only [Act.put, List.setIfInBounds_toArray, List.set_cons_zero, List.set_cons_succ, i64_w, i32_w]
                      rfl
                    refine pure_ (i := 23) (N := some 111) (v := ?_) (a' := ?_) #[true, true, true, true, true, true, true, true, true, true, true, true, true, true, true, true, true, true, true, false, true, false, false, true, false, false, false, false, false, false, false, false] rfl rfl (any_of HT_.out (by kernel_rfl)) (fun _ _ _ h => h) (Or.inl ⟨by rfl, ?_⟩) ?_ ?_
                    rotate_left
                    · intro w'
                      go_simp
                      with_reducible rfl
                    rotate_left
                    · simp only [Act.put, List.setIfInBounds_toArray, List.set_cons_zero, List.set_cons_succ, i64_w, i32_w]
                      rfl
                    refine take_ (i := 19) (N := some 107) (v := ?_) (a' := ?_) #[true, true, true, true, true, true, true, true, true, true, true, true, true, true, true, true, true, true, true, true, true, false, false, true, false, false, false, false, false, false, false, false] rfl rfl (take_ofW HT_.out HW_.out (by kernel_rfl)) (fun _ _ _ h => h) (Or.inl ⟨by rfl, ?_⟩) hHeld ?_ ?_
                    rotate_left
                    · rintro w' ⟨s0, s1, s2, s3, s4, s5, s6, s7, s8⟩
                      go_simp
                      with_reducible rfl
                    rotate_left
                    · simp only [Act.put, List.setIfInBounds_toArray, List.set_cons_zero, List.set_cons_succ, i64_w, i32_w]
                      rfl
                    refine take_ (i := 21) (N := some 109) (v := ?_) (a' := ?_) #[true, true, true, true, true, true, true, true, true, true, true, true, true, true, true, true, true, true, true, true, true, true, false, true, false, false, false, false, false, false, false, false] rfl rfl (take_ofW HT_.out HW_.out (by kernel_rfl)) (fun _ _ _ h => h) (Or.inl ⟨by rfl, ?_⟩) hHeld ?_ ?_
                    rotate_left
                    · rintro w' ⟨s0, s1, s2, s3, s4, s5, s6, s7, s8⟩
                      go_simp
                      with_reducible rfl
                    rotate_left
                    · simp only [Act.put, List.setIfInBounds_toArray, List.set_cons_zero, List.set_cons_succ, i64_w, i32_w]
                      rfl
                    refine pure_ (i := 22) (N := some 110) (v := ?_) (a' := ?_) #[true, true, true, true, true, true, true, true, true, true, true, true, true, true, true, true, true, true, true, true, true, true, true, true, false, false, false, false, false, false, false, false] rfl rfl (any_of HT_.out (by kernel_rfl)) (fun _ _ _ h => h) (Or.inl ⟨by rfl, ?_⟩) ?_ ?_
                    rotate_left
                    · intro w'
                      go_simp
                      with_reducible rfl
                    rotate_left
                    · simp only [Act.put, List.setIfInBounds_toArray, List.set_cons_zero, List.set_cons_succ, i64_w, i32_w]
                      rfl
                    refine take_ (i := 24) (N := some 112) (v := ?_) (a' := ?_) #[true, true, true, true, true, true, true, true, true, true, true, true, true, true, true, true, true, true, true, true, true, true, true, true, true, false, false, false, false, false, false, false] rfl rfl (take_ofW HT_.out HW_.out (by kernel_rfl)) (fun _ _ _ h => h) (Or.inl ⟨by rfl, ?_⟩) hHeld ?_ ?_
                    rotate_left
                    · rintro w' ⟨s0, s1, s2, s3, s4, s5, s6, s7, s8⟩
                      go_simp
                      with_reducible rfl
                    rotate_left
                    · simp only [Act.put, List.setIfInBounds_toArray, List.set_cons_zero, List.set_cons_succ, i64_w, i32_w]
                      rfl
                    refine pure_ (i := 25) (N := some 113) (v := ?_) (a' := ?_) #[true, true, true, true, true, true, true, true, true, true, true, true, true, true, true, true, true, true, true, true, true, true, true, true, true, true, false, false, false, false, false, false] rfl rfl (any_of HT_.out (by kernel_rfl)) (fun _ _ _ h => h) (Or.inl ⟨by rfl, ?_⟩) ?_ ?_
                    rotate_left
                    · intro w'
                      go_simp
                      with_reducible rfl
                    rotate_left
                    · simp only [Act.put, List.setIfInBounds_toArray, List.set_cons_zero, List.set_cons_succ, i64_w, i32_w]
                      rfl
                    refine pure_ (i := 26) (N := some 114) (v := ?_) (a' := ?_) #[true, true, true, true, true, true, true, true, true, true, true, true, true, true, true, true, true, true, true, true, true, true, true, true, true, true, true, false, false, false, false, false] rfl rfl (any_of HT_.out (by kernel_rfl)) (fun _ _ _ h => h) (Or.inl ⟨by rfl, ?_⟩) ?_ ?_
                    rotate_left
                    · intro w'
                      go_simp
                      with_reducible rfl
                    rotate_left
                    · simp only [Act.put, List.setIfInBounds_toArray, List.set_cons_zero, List.set_cons_succ, i64_w, i32_w]
                      rfl
                    refine pure_ (i := 27) (N := some 115) (v := ?_) (a' := ?_) #[true, true, true, true, true, true, true, true, true, true, true, true, true, true, true, true, true, true, true, true, true, true, true, true, true, true, true, true, false, false, false, false] rfl rfl (any_of HT_.out (by kernel_rfl)) (fun _ _ _ h => h) (Or.inl ⟨by rfl, ?_⟩) ?_ ?_
                    rotate_left
                    · intro w'
                      go_simp
                      with_reducible rfl
                    rotate_left
                    · simp only [Act.put, List.setIfInBounds_toArray, List.set_cons_zero, List.set_cons_succ, i64_w, i32_w]
                      rfl
                    refine pure_ (i := 28) (N := some 116) (v := ?_) (a' := ?_) #[true, true, true, true, true, true, true, true, true, true, true, true, true, true, true, true, true, true, true, true, true, true, true, true, true, true, true, true, true, false, false, false] rfl rfl (any_of HT_.out (by kernel_rfl)) (fun _ _ _ h => h) (Or.inl ⟨by rfl, ?_⟩) ?_ ?_
                    rotate_left
                    · intro w'
                      go_simp
                      with_reducible rfl
                    rotate_left
                    · simp only [Act.put, List.setIfInBounds_toArray, List.set_cons_zero, List.set_cons_succ, i64_w, i32_w]
                      rfl
                    refine one_ (i := 29) (N := some 117) #[true, true, true, true, true, true, true, true, true, true, true, true, true, true, true, true, true, true, true, true, true, true, true, true, true, true, true, true, true, true, false, false] rfl rfl (one_of HT_.out (by kernel_rfl)) (by decide) (fun K hK => ?_)
                    refine goes_ Try.func12 (by kernel_rfl) rfl #[] (by rfl) rfl rfl (by (try simp only [List.map_toArray, List.map_cons, List.map_nil]); first | done | rfl | (simp only [List.length_drop, List.length_take]; rfl)) ?_
                    with_reducible refine (coupletlaw04_awake.calls kj91  t396 _ A129.out).mono ?_
                    rintro e w143 ⟨rfl, hb⟩
                    refine ⟨_, rfl, ?_⟩
                    have n0_ := Aside0.mk (blk_below (g := gb378) (o := .cells #[.int .i64 a0_0, .int .i64 a0_1, .bool a0_2] 23 (0, 0)) (by (with_reducible repeat (first | refine blk_drewN ?_ _ | refine blk_drew ?_ | refine blk_alloc ?_ _)); exact BK378.out) hb)
                    have n1_ := Aside0.mk (blk_below (g := gb379) (o := .cells #[.int .i64 a1_0, .int .i64 a1_1, .bool a1_2] 23 (0, 0)) (by (with_reducible repeat (first | refine blk_drewN ?_ _ | refine blk_drew ?_ | refine blk_alloc ?_ _)); exact BK379.out) hb)
                    have n2_ := Aside0.mk (blk_below (g := gb383) (o := .cells #[.int .i64 t380, .int .i64 t381, .bool false] 23 (0, 0)) (by (with_reducible repeat (first | refine blk_drewN ?_ _ | refine blk_drew ?_ | refine blk_alloc ?_ _)); exact BK383.out) hb)
                    have n3_ := Aside0.mk (blk_below (g := gb390) (o := .cells #[.int .i64 t387, .int .i64 t388, .bool t389] 23 (0, 0)) (by (with_reducible repeat (first | refine blk_drewN ?_ _ | refine blk_drew ?_ | refine blk_alloc ?_ _)); exact BK390.out) hb)
                    have n4_ := Aside0.mk (below_step (by repeat (first | (with_reducible first | exact HB.out | apply below_alloc | apply pw_below_drewN | apply below_drew1 | refine below_set ?_ GE378.out | refine below_set ?_ GE379.out | refine below_set ?_ GE383.out | refine below_set ?_ GE390.out) | exact HB.out)) hb)
                    clear BK378
                    clear BK379
                    clear BK383
                    clear BK390
                    clear HB
                    have BK378 := n0_
                    have BK379 := n1_
                    have BK383 := n2_
                    have BK390 := n3_
                    have HB := n4_
                    clear n0_ n1_ n2_ n3_ n4_
                    (try clear hb)
                    (try clear hb2)
                    (try clear hk)
                    (try clear hi)
                    refine hK.out _ _ ⟨(blk_cell BK383.out 0).trans rfl, (blk_cell BK383.out 1).trans rfl, (blk_cell BK383.out 2).trans rfl, (blk_cell BK390.out 0).trans rfl, (blk_cell BK390.out 1).trans rfl, (blk_cell BK390.out 2).trans rfl, (blk_cell BK378.out 0).trans rfl, (blk_cell BK378.out 1).trans rfl, (blk_cell BK378.out 2).trans rfl⟩ (fun hHeld => ?_)
                    clear hK K
                    refine norm_ (a' := ?_) ?_ ?_
                    rotate_left
                    · show Act.put _ (some 117) _ = _
                      simp only [Act.put, List.setIfInBounds_toArray, List.set_cons_zero, List.set_cons_succ, i64_w, i32_w]
                      rfl
                    refine pure_ (i := 30) (N := some 118) (v := ?_) (a' := ?_) #[true, true, true, true, true, true, true, true, true, true, true, true, true, true, true, true, true, true, true, true, true, true, true, true, true, true, true, true, true, true, true, false] rfl rfl (any_of HT_.out (by kernel_rfl)) (fun _ _ _ h => h) (Or.inl ⟨by rfl, ?_⟩) ?_ ?_
                    rotate_left
                    · intro w'
                      go_simp
                      with_reducible rfl
                    rotate_left
                    · simp only [Act.put, List.setIfInBounds_toArray, List.set_cons_zero, List.set_cons_succ, i64_w, i32_w]
                      rfl
                    refine pure_ (i := 31) (N := some 4) (v := ?_) (a' := ?_) #[true, true, true, true, true, true, true, true, true, true, true, true, true, true, true, true, true, true, true, true, true, true, true, true, true, true, true, true, true, true, true, true] rfl rfl (any_of HT_.out (by kernel_rfl)) (fun _ _ _ h => h) (Or.inl ⟨by rfl, ?_⟩) ?_ ?_
                    rotate_left
                    · intro w'
                      go_simp
                      with_reducible rfl
                    rotate_left
                    · simp only [Act.put, List.setIfInBounds_toArray, List.set_cons_zero, List.set_cons_succ, i64_w, i32_w]
                      rfl
                    refine done_ (done_of HT_.out (by kernel_rfl)) ?_
                    try go_wp2
                    go_ret
                    exact ⟨by first | rfl | (simp [errW_none, errW_some] <;> rfl) | (simp [*, errW_none, errW_some] <;> rfl), by repeat (first | (with_reducible first | exact HB.out | apply below_alloc | apply pw_below_drewN | apply below_drew1 | refine below_set ?_ GE378.out | refine below_set ?_ GE379.out | refine below_set ?_ GE383.out | refine below_set ?_ GE390.out) | exact HB.out)⟩
                  · rw [if_neg c128] at H
                    have c128b0 : (t387 == (wrap64 (-a0_0)) && (t388 == a0_1 && (!t389))) = false := by simpa using c128
                    (try (have c128b1 : decide (t387 = (wrap64 (-a0_0)) && (t388 == a0_1 && (!t389))) = false := by simpa using c128))
                    (try (have c128b2 : (t387 == (wrap64 (-a0_0)) && (t388 == a0_1 && (!t389))) = false := by simpa using c128))
                    (try (have c128b3 : ¬ (t387 = (wrap64 (-a0_0)) && (t388 == a0_1 && (!t389))) := by simpa using c128))
                    clear c128
                    obtain rfl := Option.some.inj H
                    exact absurd hr (by decide)
                · replace c127 := Bool.eq_false_iff.mpr c127
                  subst c127
                  have H1 : (some false) = some r := by rw [if_neg (show ¬ (false = true) by decide)] at H; exact H
                  clear H
                  have H := H1
                  clear H1
                  obtain rfl := Option.some.inj H
                  exact absurd hr (by decide)
            · rw [if_neg c97] at H
              have c97b0 : (t380 == t391 && (t381 == t392 && (t382 == t393))) = false := by simpa using c97
              (try (have c97b1 : decide (t380 = t391 && (t381 == t392 && (t382 == t393))) = false := by simpa using c97))
              (try (have c97b2 : (t380 == t391 && (t381 == t392 && (t382 == t393))) = false := by simpa using c97))
              (try (have c97b3 : ¬ (t380 = t391 && (t381 == t392 && (t382 == t393))) := by simpa using c97))
              clear c97
              obtain rfl := Option.some.inj H
              exact absurd hr (by decide)

end Go.Proofs.Ytbpbeighpaaeaaa.G
