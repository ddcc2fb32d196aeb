-- Written by the kit's print.py for this seat over wip/F/doctor.py, then turned by wip/F/fix.py.
import Derived.Test.YtbpbeighpaaeaaaGx0
import Derived.Test.YtbpbeighpaaeaaaGrd
import Derived.Test.YtbpbeighpaaeaaaFld
import Derived.Test.YtbpbeighpaaeaaaGx1
import Derived.Test.YtbpbeighpaaeaaaGx2
import Derived.Test.YtbpbeighpaaeaaaGx3
import Derived.Test.YtbpbeighpaaeaaaGx4
import Derived.Test.YtbpbeighpaaeaaaGx5
import Derived.Test.YtbpbeighpaaeaaaGfi
import Derived.Test.YtbpbeighpaaeaaaGx9
import Derived.Test.YtbpbeighpaaeaaaGof
import Derived.Test.YtbpbeighpaaeaaaGx11
namespace Go.Proofs.Ytbpbeighpaaeaaa.G
open Go.RowKit Go.Proofs.YtbpbeighpaaeaaaW.PrintWords Go.Proofs.YtbpbeighpaaeaaaW.PrintLast Go.Proofs.YtbpbeighpaaeaaaW.PrintMore
attribute [local go_sem] max2_int min2_int max_two min_two max_three min_three max_four min_four   -- for this text's walks alone
attribute [local go_sem high] field23_0 field23_1 field23_2
set_option linter.unusedVariables false
set_option linter.unusedSimpArgs false

attribute [local go_sem high] eqA23
/-! ### coupletlaw04_FracRoots -/
def coupletlaw04_FracRoots.T8 : Bool × List (List Nat × List Nat) := (true, [([], []), ([0], [0]), ([], []), ([1, 2], [1, 2]), ([3, 1], [3]), ([4], [4]), ([5, 4, 4], [4, 5]), ([4], [4]), ([7, 6, 4], [4, 7]), ([6, 8, 4], [4, 6, 8]), ([4, 9], [4, 9]), ([10, 8], [10]), ([11], [11]), ([12, 11, 11], [11, 12]), ([13, 13, 11], [11, 13]), ([14], [14]), ([14], [14]), ([16, 14], [14, 16]), ([15, 17, 14], [14, 15, 17]), ([14, 18, 11], [11, 14, 18]), ([11, 19], [11, 19]), ([20, 14], [20]), ([21], [21]), ([22, 21, 21], [21, 22]), ([23, 21], [21, 23]), ([24, 23, 21], [21, 24]), ([25], [25]), ([26, 25], [25, 26]), ([27, 25], [25, 27]), ([25, 28, 21], [21, 25, 28]), ([21, 29], [21, 29])])
def coupletlaw04_FracRoots.B8 : List Nat := [0, 1, 0, 7, 15, 31, 63, 31, 255, 511, 1023, 2047, 4095, 8191, 16383, 32767, 32767, 98303, 262143, 524287, 1048575, 2097151, 4194303, 8388607, 16777215, 33554431, 67108863, 134217727, 268435455, 536870911, 1073741823]
theorem coupletlaw04_FracRoots.tab8 : rtab .any (opsOf Try.f5 8) = coupletlaw04_FracRoots.T8 := by kernel_rfl
theorem coupletlaw04_FracRoots.bits8 : waitsOk coupletlaw04_FracRoots.T8.2 coupletlaw04_FracRoots.B8 = true := by kernel_rfl
def coupletlaw04_FracRoots.T12 : Bool × List (List Nat × List Nat) := (true, [([], []), ([], []), ([1], [1]), ([2], [2]), ([], []), ([4], [4]), ([5, 3], [5]), ([3, 6], [3, 6]), ([0, 7], [0, 7]), ([8, 6], [8]), ([9], [9]), ([9], [9]), ([10, 11, 9, 9], [9, 10, 11]), ([9], [9]), ([12, 13, 9], [9, 12, 13]), ([9, 14], [9, 14]), ([15, 12], [15]), ([16, 16], [16]), ([16, 17], [16, 17]), ([18, 17, 0, 1, 2, 3, 4, 5, 6, 7, 8, 9, 10, 11, 12, 13, 14, 15, 16, 17, 18], [18])])
def coupletlaw04_FracRoots.B12 : List Nat := [0, 0, 2, 6, 0, 16, 62, 126, 255, 511, 1023, 1023, 4095, 1023, 16383, 32767, 65535, 131071, 262143, 524287]
theorem coupletlaw04_FracRoots.tab12 : rtab .any (opsOf Try.f5 12) = coupletlaw04_FracRoots.T12 := by kernel_rfl
theorem coupletlaw04_FracRoots.bits12 : waitsOk coupletlaw04_FracRoots.T12.2 coupletlaw04_FracRoots.B12 = true := by kernel_rfl
set_option maxHeartbeats 8000000 in
set_option maxRecDepth 100000 in
theorem coupletlaw04_FracRoots.calls (k : Nat) (a0_0 : Int) (a0_1 : Int) (a0_2 : Bool) (a1 : Int) (r : Bool) (w : World) (hr : r = true) (h : coupletlaw04_FracRoots.f k a0_0 a0_1 a0_2 a1 = some r) :
    Calls Try.prog 5 #[.agg #[.int .i64 a0_0, .int .i64 a0_1, .bool a0_2], .int .i64 a1] w fun e w' => e = .returned (.bool r) ∧ Below w.heap.size w w' := by
  have hu23 := Try.underlying23
  have HB := Aside0.mk (Below.refl w.heap.size w)
  have H : ((frac_Frac_Root.f k a0_0 a0_1 a0_2).bind fun bt349 => ((coupletlaw04_fine.f k a0_0 a0_1 a0_2).bind fun t353 => (if t353 = true then (coupletlaw04_FracRoots.j0 k a1 0 (decide (a0_0 < 0)) a0_0 a0_1 a0_2 bt349.1 bt349.2.1 bt349.2.2) else (coupletlaw04_FracRoots.j0 k a1 0 false a0_0 a0_1 a0_2 bt349.1 bt349.2.1 bt349.2.2)))) = some r := h
  clear h
  replace H := Option.bind_eq_some_iff.mp H
  obtain ⟨⟨t349, t350, t351⟩, A30, H⟩ := H
  replace H : ((coupletlaw04_fine.f k a0_0 a0_1 a0_2).bind fun t353 => (if t353 = true then (coupletlaw04_FracRoots.j0 k a1 0 (decide (a0_0 < 0)) a0_0 a0_1 a0_2 t349 t350 t351) else (coupletlaw04_FracRoots.j0 k a1 0 false a0_0 a0_1 a0_2 t349 t350 t351))) = some r := H
  have A3 := Aside0.mk A30
  clear A30
  have HC4 := Aside0.mk H
  clear H
  go_enter Try.func5, Try.ntmps5
  go_upto_region 3 with (first | ((with_reducible refine gate_dst (N := 2) rfl ?_); refine box_event ?hg (N := 2) ?hd (cs := #[.int .i64 a0_0, .int .i64 a0_1, .bool a0_2]) (t := 23) ?hr ?_; (case hd => rfl); (case hg => rfl); (case hr => first | (go_simp; done) | (go_simp; rfl)); intro gb348 hg w5 hbox hb; have n0_ := Aside0.mk (below_step (by repeat (first | (with_reducible first | exact HB.out | apply below_alloc | apply pw_below_drewN | apply below_drew1) | exact HB.out)) hb); have n1_ := Aside0.mk (hbox); have n2_ := Aside0.mk ((by rw [hg]; exact (below_size (by repeat (first | (with_reducible first | exact HB.out | apply below_alloc | apply pw_below_drewN | apply below_drew1) | exact HB.out))) : w.heap.size ≤ gb348)); have n3_ := Aside0.mk ((by rw [hg]; exact (below_size (by repeat (first | (with_reducible first | exact HB.out | apply below_alloc | apply pw_below_drewN | apply below_drew1) | exact HB.out))) : w.heap.size ≤ gb348)); clear HB; have HB := n0_; have BK348 := n1_; have GW348 := n2_; have GE348 := n3_; clear n0_ n1_ n2_ n3_; clear hb hbox hg; have hcz6_0 : w5.cell? ⟨gb348, 0, none⟩ = some (.int .i64 a0_0) := (blk_cell BK348.out 0).trans rfl; have hcz6_1 : w5.cell? ⟨gb348, 1, none⟩ = some (.int .i64 a0_1) := (blk_cell BK348.out 1).trans rfl; have hcz6_2 : w5.cell? ⟨gb348, 2, none⟩ = some (.bool a0_2) := (blk_cell BK348.out 2).trans rfl; have hfz6_0 := blk_frozen BK348.out 0; have hfz6_1 := blk_frozen BK348.out 1; have hfz6_2 := blk_frozen BK348.out 2) | ((with_reducible refine gate_callee (f := 19) rfl ?_); refine goesL_ (some 9) rfl rfl Try.func19 (by kernel_rfl) rfl #[.agg #[.int .i64 a0_0, .int .i64 a0_1, .bool a0_2]] rfl (by (try simp only [List.map_toArray, List.map_cons, List.map_nil]); first | done | rfl | (simp only [List.length_drop, List.length_take]; rfl)) ?_; (with_reducible refine (frac_Frac_Root.calls k a0_0 a0_1 a0_2 t349 t350 t351 _ A3.out).mono ?_); rintro e w7 ⟨rfl, hb⟩; refine ⟨_, rfl, ?_⟩; have n0_ := Aside0.mk (blk_below (g := gb348) (o := .cells #[.int .i64 a0_0, .int .i64 a0_1, .bool a0_2] 23 (0, 0)) (by (with_reducible repeat (first | refine blk_drewN ?_ _ | refine blk_drew ?_ | refine blk_alloc ?_ _)); exact BK348.out) hb); have n1_ := Aside0.mk (below_step (by repeat (first | (with_reducible first | exact HB.out | apply below_alloc | apply pw_below_drewN | apply below_drew1 | refine below_set ?_ GE348.out) | exact HB.out)) hb); clear BK348; clear HB; have BK348 := n0_; have HB := n1_; clear n0_ n1_; (try clear hb); (try clear hb2); (try clear hk); (try clear hi)) | ((with_reducible refine gate_dst (N := 5) rfl ?_); refine box_event ?hg (N := 5) ?hd (cs := #[.int .i64 0, .int .i64 0, .bool false]) (t := 23) ?hr ?_; (case hd => rfl); (case hg => rfl); (case hr => first | (go_simp; done) | (go_simp; rfl)); intro gb352 hg w8 hbox hb; have n0_ := Aside0.mk (blk_below (g := gb348) (o := .cells #[.int .i64 a0_0, .int .i64 a0_1, .bool a0_2] 23 (0, 0)) (by (with_reducible repeat (first | refine blk_drewN ?_ _ | refine blk_drew ?_ | refine blk_alloc ?_ _)); exact BK348.out) hb); have n1_ := Aside0.mk (below_step (by repeat (first | (with_reducible first | exact HB.out | apply below_alloc | apply pw_below_drewN | apply below_drew1 | refine below_set ?_ GE348.out) | exact HB.out)) hb); have n2_ := Aside0.mk (hbox); have n3_ := Aside0.mk ((by rw [hg]; exact (below_size (by repeat (first | (with_reducible first | exact HB.out | apply below_alloc | apply pw_below_drewN | apply below_drew1 | refine below_set ?_ GE348.out) | exact HB.out))) : w.heap.size ≤ gb352)); have n4_ := Aside0.mk ((by rw [hg]; exact (below_size (by repeat (first | (with_reducible first | exact HB.out | apply below_alloc | apply pw_below_drewN | apply below_drew1 | refine below_set ?_ GE348.out) | exact HB.out))) : w.heap.size ≤ gb352)); have n5_ := Aside0.mk ((by rw [hg]; exact Nat.ne_of_lt (blk_lt (g := gb348) (o := .cells #[.int .i64 a0_0, .int .i64 a0_1, .bool a0_2] 23 (0, 0)) (by (with_reducible repeat (first | refine blk_drewN ?_ _ | refine blk_drew ?_ | refine blk_alloc ?_ _)); exact BK348.out)) : gb348 ≠ gb352)); have n6_ := Aside0.mk ((by rw [hg]; exact Nat.ne_of_gt (blk_lt (g := gb348) (o := .cells #[.int .i64 a0_0, .int .i64 a0_1, .bool a0_2] 23 (0, 0)) (by (with_reducible repeat (first | refine blk_drewN ?_ _ | refine blk_drew ?_ | refine blk_alloc ?_ _)); exact BK348.out)) : gb352 ≠ gb348)); clear BK348; clear HB; have BK348 := n0_; have HB := n1_; have BK352 := n2_; have GW352 := n3_; have GE352 := n4_; have NB348_352 := n5_; have NB352_348 := n6_; clear n0_ n1_ n2_ n3_ n4_ n5_ n6_; clear hb hbox hg; have hnb9 := NB352_348.out; have hnc9 := NB348_352.out; have hcz10_0 : w8.cell? ⟨gb352, 0, none⟩ = some (.int .i64 0) := (blk_cell BK352.out 0).trans rfl; have hcz10_1 : w8.cell? ⟨gb352, 1, none⟩ = some (.int .i64 0) := (blk_cell BK352.out 1).trans rfl; have hcz10_2 : w8.cell? ⟨gb352, 2, none⟩ = some (.bool false) := (blk_cell BK352.out 2).trans rfl; have hfz10_0 := blk_frozen BK352.out 0; have hfz10_1 := blk_frozen BK352.out 1; have hfz10_2 := blk_frozen BK352.out 2))
  (try simp only [Act.put, List.setIfInBounds_toArray, List.set_cons_zero, List.set_cons_succ])
  go_cut [16] (fun v16 wc => ∃ (kq : Nat) (x16_3 : Bool), v16 = .bool x16_3 ∧ Aside0 (coupletlaw04_FracRoots.j0 kq a1 0 x16_3 a0_0 a0_1 a0_2 t349 t350 t351 = some r) ∧ Aside0 (kq ≤ k) ∧ Aside0 (wc.heap[gb348]? = some (.cells #[.int .i64 a0_0, .int .i64 a0_1, .bool a0_2] 23 (0, 0))) ∧ Aside0 (wc.heap[gb352]? = some (.cells #[.int .i64 t349, .int .i64 t350, .bool t351] 23 (0, 0))) ∧ Aside0 (Below w.heap.size w wc))
  case first =>
    have H := HC4.out
    clear HC4
    replace H := Option.bind_eq_some_iff.mp H
    obtain ⟨t353, A110, H⟩ := H
    replace H : (if t353 = true then (coupletlaw04_FracRoots.j0 k a1 0 (decide (a0_0 < 0)) a0_0 a0_1 a0_2 t349 t350 t351) else (coupletlaw04_FracRoots.j0 k a1 0 false a0_0 a0_1 a0_2 t349 t350 t351)) = some r := H
    have A11 := Aside0.mk A110
    clear A110
    by_cases c12 : t353 = true
    · subst c12
      have H1 : (coupletlaw04_FracRoots.j0 k a1 0 (decide (a0_0 < 0)) a0_0 a0_1 a0_2 t349 t350 t351) = some r := by rw [if_pos rfl] at H; exact H
      clear H
      have H := H1
      clear H1
      have H' := Aside0.mk H
      clear H
      have hnb13 := NB348_352.out
      have hnc13 := NB352_348.out
      have hcz14_0 : w8.cell? ⟨gb348, 0, none⟩ = some (.int .i64 a0_0) := (blk_cell BK348.out 0).trans rfl
      have hcz14_1 : w8.cell? ⟨gb348, 1, none⟩ = some (.int .i64 a0_1) := (blk_cell BK348.out 1).trans rfl
      have hcz14_2 : w8.cell? ⟨gb348, 2, none⟩ = some (.bool a0_2) := (blk_cell BK348.out 2).trans rfl
      have hfz14_0 := blk_frozen BK348.out 0
      have hfz14_1 := blk_frozen BK348.out 1
      have hfz14_2 := blk_frozen BK348.out 2
      go_wp2_with (first | ((with_reducible refine gate_callee (f := 13) rfl ?_); refine goesL_ (some 11) rfl rfl Try.func13 (by kernel_rfl) rfl #[.agg #[.int .i64 a0_0, .int .i64 a0_1, .bool a0_2]] rfl (by (try simp only [List.map_toArray, List.map_cons, List.map_nil]); first | done | rfl | (simp only [List.length_drop, List.length_take]; rfl)) ?_; (with_reducible refine (coupletlaw04_fine.calls k a0_0 a0_1 a0_2 true _ A11.out).mono ?_); rintro e w15 ⟨rfl, hb⟩; refine ⟨_, rfl, ?_⟩; have n0_ := Aside0.mk (blk_below (g := gb348) (o := .cells #[.int .i64 a0_0, .int .i64 a0_1, .bool a0_2] 23 (0, 0)) (by (with_reducible repeat (first | refine blk_drewN ?_ _ | refine blk_drew ?_ | refine blk_alloc ?_ _)); refine blk_far ?_ NB348_352.out _; (with_reducible repeat (first | refine blk_drewN ?_ _ | refine blk_drew ?_ | refine blk_alloc ?_ _)); refine blk_far ?_ NB348_352.out _; (with_reducible repeat (first | refine blk_drewN ?_ _ | refine blk_drew ?_ | refine blk_alloc ?_ _)); refine blk_far ?_ NB348_352.out _; (with_reducible repeat (first | refine blk_drewN ?_ _ | refine blk_drew ?_ | refine blk_alloc ?_ _)); exact BK348.out) hb); have n1_ := Aside0.mk (blk_below (g := gb352) (o := .cells #[.int .i64 t349, .int .i64 t350, .bool t351] 23 (0, 0)) (by (with_reducible repeat (first | refine blk_drewN ?_ _ | refine blk_drew ?_ | refine blk_alloc ?_ _)); refine blk_put (cs := #[.int .i64 t349, .int .i64 t350, .bool false]) ?_ 2 _ rfl; (with_reducible repeat (first | refine blk_drewN ?_ _ | refine blk_drew ?_ | refine blk_alloc ?_ _)); refine blk_put (cs := #[.int .i64 t349, .int .i64 0, .bool false]) ?_ 1 _ rfl; (with_reducible repeat (first | refine blk_drewN ?_ _ | refine blk_drew ?_ | refine blk_alloc ?_ _)); refine blk_put (cs := #[.int .i64 0, .int .i64 0, .bool false]) ?_ 0 _ rfl; (with_reducible repeat (first | refine blk_drewN ?_ _ | refine blk_drew ?_ | refine blk_alloc ?_ _)); exact BK352.out) hb); have n2_ := Aside0.mk (below_step (by repeat (first | (with_reducible first | exact HB.out | apply below_alloc | apply pw_below_drewN | apply below_drew1 | refine below_set ?_ GE348.out | refine below_set ?_ GE352.out) | exact HB.out)) hb); clear BK348; clear BK352; clear HB; have BK348 := n0_; have BK352 := n1_; have HB := n2_; clear n0_ n1_ n2_; (try clear hb); (try clear hb2); (try clear hk); (try clear hi); have hcz16_0 : w15.cell? ⟨gb348, 0, none⟩ = some (.int .i64 a0_0) := (blk_cell BK348.out 0).trans rfl; have hcz16_1 : w15.cell? ⟨gb348, 1, none⟩ = some (.int .i64 a0_1) := (blk_cell BK348.out 1).trans rfl; have hcz16_2 : w15.cell? ⟨gb348, 2, none⟩ = some (.bool a0_2) := (blk_cell BK348.out 2).trans rfl; have hfz16_0 := blk_frozen BK348.out 0; have hfz16_1 := blk_frozen BK348.out 1; have hfz16_2 := blk_frozen BK348.out 2))
      go_meet
      case rel => exact ⟨_, (decide (a0_0 < 0)), (by first | rfl | (simp; done) | (simp [*]; done)), H', ⟨by first | omega | exact Nat.le_refl _⟩, ⟨by (with_reducible repeat (first | refine blk_drewN ?_ _ | refine blk_drew ?_ | refine blk_alloc ?_ _)); exact BK348.out⟩, ⟨by (with_reducible repeat (first | refine blk_drewN ?_ _ | refine blk_drew ?_ | refine blk_alloc ?_ _)); exact BK352.out⟩, ⟨by repeat (first | (with_reducible first | exact HB.out | apply below_alloc | apply pw_below_drewN | apply below_drew1 | refine below_set ?_ GE348.out | refine below_set ?_ GE352.out) | exact HB.out)⟩⟩
    · replace c12 := Bool.eq_false_iff.mpr c12
      subst c12
      have H1 : (coupletlaw04_FracRoots.j0 k a1 0 false a0_0 a0_1 a0_2 t349 t350 t351) = some r := by rw [if_neg (show ¬ (false = true) by decide)] at H; exact H
      clear H
      have H := H1
      clear H1
      have H' := Aside0.mk H
      clear H
      have hnb17 := NB348_352.out
      have hnc17 := NB352_348.out
      have hcz18_0 : w8.cell? ⟨gb348, 0, none⟩ = some (.int .i64 a0_0) := (blk_cell BK348.out 0).trans rfl
      have hcz18_1 : w8.cell? ⟨gb348, 1, none⟩ = some (.int .i64 a0_1) := (blk_cell BK348.out 1).trans rfl
      have hcz18_2 : w8.cell? ⟨gb348, 2, none⟩ = some (.bool a0_2) := (blk_cell BK348.out 2).trans rfl
      have hfz18_0 := blk_frozen BK348.out 0
      have hfz18_1 := blk_frozen BK348.out 1
      have hfz18_2 := blk_frozen BK348.out 2
      go_wp2_with (first | ((with_reducible refine gate_callee (f := 13) rfl ?_); refine goesL_ (some 11) rfl rfl Try.func13 (by kernel_rfl) rfl #[.agg #[.int .i64 a0_0, .int .i64 a0_1, .bool a0_2]] rfl (by (try simp only [List.map_toArray, List.map_cons, List.map_nil]); first | done | rfl | (simp only [List.length_drop, List.length_take]; rfl)) ?_; (with_reducible refine (coupletlaw04_fine.calls k a0_0 a0_1 a0_2 false _ A11.out).mono ?_); rintro e w19 ⟨rfl, hb⟩; refine ⟨_, rfl, ?_⟩; have n0_ := Aside0.mk (blk_below (g := gb348) (o := .cells #[.int .i64 a0_0, .int .i64 a0_1, .bool a0_2] 23 (0, 0)) (by (with_reducible repeat (first | refine blk_drewN ?_ _ | refine blk_drew ?_ | refine blk_alloc ?_ _)); refine blk_far ?_ NB348_352.out _; (with_reducible repeat (first | refine blk_drewN ?_ _ | refine blk_drew ?_ | refine blk_alloc ?_ _)); refine blk_far ?_ NB348_352.out _; (with_reducible repeat (first | refine blk_drewN ?_ _ | refine blk_drew ?_ | refine blk_alloc ?_ _)); refine blk_far ?_ NB348_352.out _; (with_reducible repeat (first | refine blk_drewN ?_ _ | refine blk_drew ?_ | refine blk_alloc ?_ _)); exact BK348.out) hb); have n1_ := Aside0.mk (blk_below (g := gb352) (o := .cells #[.int .i64 t349, .int .i64 t350, .bool t351] 23 (0, 0)) (by (with_reducible repeat (first | refine blk_drewN ?_ _ | refine blk_drew ?_ | refine blk_alloc ?_ _)); refine blk_put (cs := #[.int .i64 t349, .int .i64 t350, .bool false]) ?_ 2 _ rfl; (with_reducible repeat (first | refine blk_drewN ?_ _ | refine blk_drew ?_ | refine blk_alloc ?_ _)); refine blk_put (cs := #[.int .i64 t349, .int .i64 0, .bool false]) ?_ 1 _ rfl; (with_reducible repeat (first | refine blk_drewN ?_ _ | refine blk_drew ?_ | refine blk_alloc ?_ _)); refine blk_put (cs := #[.int .i64 0, .int .i64 0, .bool false]) ?_ 0 _ rfl; (with_reducible repeat (first | refine blk_drewN ?_ _ | refine blk_drew ?_ | refine blk_alloc ?_ _)); exact BK352.out) hb); have n2_ := Aside0.mk (below_step (by repeat (first | (with_reducible first | exact HB.out | apply below_alloc | apply pw_below_drewN | apply below_drew1 | refine below_set ?_ GE348.out | refine below_set ?_ GE352.out) | exact HB.out)) hb); clear BK348; clear BK352; clear HB; have BK348 := n0_; have BK352 := n1_; have HB := n2_; clear n0_ n1_ n2_; (try clear hb); (try clear hb2); (try clear hk); (try clear hi)))
      go_meet
      case rel => exact ⟨_, (false), (by first | rfl | (simp; done) | (simp [*]; done)), H', ⟨by first | omega | exact Nat.le_refl _⟩, ⟨by (with_reducible repeat (first | refine blk_drewN ?_ _ | refine blk_drew ?_ | refine blk_alloc ?_ _)); exact BK348.out⟩, ⟨by (with_reducible repeat (first | refine blk_drewN ?_ _ | refine blk_drew ?_ | refine blk_alloc ?_ _)); exact BK352.out⟩, ⟨by repeat (first | (with_reducible first | exact HB.out | apply below_alloc | apply pw_below_drewN | apply below_drew1 | refine below_set ?_ GE348.out | refine below_set ?_ GE352.out) | exact HB.out)⟩⟩
  case rest =>
    clear HC4
    try clear c1
    try clear p2
    try clear c5
    try clear c9
    try clear c12
    try clear c13
    try clear c17
    try clear c19
    try clear hcz10_0
    try clear hcz10_1
    try clear hcz10_2
    try clear hcz14_0
    try clear hcz14_1
    try clear hcz14_2
    try clear hcz16_0
    try clear hcz16_1
    try clear hcz16_2
    try clear hcz18_0
    try clear hcz18_1
    try clear hcz18_2
    try clear hcz6_0
    try clear hcz6_1
    try clear hcz6_2
    try clear hfz10_0
    try clear hfz10_1
    try clear hfz10_2
    try clear hfz14_0
    try clear hfz14_1
    try clear hfz14_2
    try clear hfz16_0
    try clear hfz16_1
    try clear hfz16_2
    try clear hfz18_0
    try clear hfz18_1
    try clear hfz18_2
    try clear hfz6_0
    try clear hfz6_1
    try clear hfz6_2
    obtain ⟨kq, x16_3, rfl, HA, HJ3, BK348, BK352, HB⟩ := hcut
    cases kq with
    | zero => exact absurd HA.out (by simp [coupletlaw04_FracRoots.j0])
    | succ kj3 =>
      have H := HA.out
      clear HA
      simp only [coupletlaw04_FracRoots.j0] at H
      have HC20 := Aside0.mk H
      clear H
      go_upto_if 16 with (fail)
      go_cut [6] (fun v6 wc => ∃ (kq : Nat) (x6_19 : Int), v6 = .int .i64 x6_19 ∧ Aside0 (coupletlaw04_FracRoots.j1 kq a1 x6_19 a0_0 a0_1 a0_2 t349 t350 t351 = some r) ∧ Aside0 (kq ≤ kj3) ∧ Aside0 (wc.heap[gb348]? = some (.cells #[.int .i64 a0_0, .int .i64 a0_1, .bool a0_2] 23 (0, 0))) ∧ Aside0 (wc.heap[gb352]? = some (.cells #[.int .i64 t349, .int .i64 t350, .bool t351] 23 (0, 0))) ∧ Aside0 (Below w.heap.size w wc))
      case first =>
        have H := HC20.out
        clear HC20
        by_cases c21 : x16_3 = true
        · subst c21
          have H1 : (coupletlaw04_FracRoots.j1 kj3 a1 (-1) a0_0 a0_1 a0_2 t349 t350 t351) = some r := by rw [if_pos rfl] at H; exact H
          clear H
          have H := H1
          clear H1
          have H' := Aside0.mk H
          clear H
          go_wp2
          go_meet
          case rel => exact ⟨_, ((-1)), (by first | rfl | (simp; done) | (simp [*]; done)), H', ⟨by have := HJ3.out; first | omega | exact Nat.le_refl _⟩, ⟨by (with_reducible repeat (first | refine blk_drewN ?_ _ | refine blk_drew ?_ | refine blk_alloc ?_ _)); exact BK348.out⟩, ⟨by (with_reducible repeat (first | refine blk_drewN ?_ _ | refine blk_drew ?_ | refine blk_alloc ?_ _)); exact BK352.out⟩, ⟨by repeat (first | (with_reducible first | exact HB.out | apply below_alloc | apply pw_below_drewN | apply below_drew1 | refine below_set ?_ GE348.out | refine below_set ?_ GE352.out) | exact HB.out)⟩⟩
        · replace c21 := Bool.eq_false_iff.mpr c21
          subst c21
          have H1 : (coupletlaw04_FracRoots.j1 kj3 a1 0 a0_0 a0_1 a0_2 t349 t350 t351) = some r := by rw [if_neg (show ¬ (false = true) by decide)] at H; exact H
          clear H
          have H := H1
          clear H1
          have H' := Aside0.mk H
          clear H
          go_wp2
          go_meet
          case rel => exact ⟨_, (0), (by first | rfl | (simp; done) | (simp [*]; done)), H', ⟨by have := HJ3.out; first | omega | exact Nat.le_refl _⟩, ⟨by (with_reducible repeat (first | refine blk_drewN ?_ _ | refine blk_drew ?_ | refine blk_alloc ?_ _)); exact BK348.out⟩, ⟨by (with_reducible repeat (first | refine blk_drewN ?_ _ | refine blk_drew ?_ | refine blk_alloc ?_ _)); exact BK352.out⟩, ⟨by repeat (first | (with_reducible first | exact HB.out | apply below_alloc | apply pw_below_drewN | apply below_drew1 | refine below_set ?_ GE348.out | refine below_set ?_ GE352.out) | exact HB.out)⟩⟩
      case rest =>
        clear HC20
        try clear c1
        try clear c2
        try clear p2
        try clear c5
        try clear c9
        try clear c12
        try clear c13
        try clear c17
        try clear c19
        try clear c21
        try clear hcz10_0
        try clear hcz10_1
        try clear hcz10_2
        try clear hcz14_0
        try clear hcz14_1
        try clear hcz14_2
        try clear hcz16_0
        try clear hcz16_1
        try clear hcz16_2
        try clear hcz18_0
        try clear hcz18_1
        try clear hcz18_2
        try clear hcz6_0
        try clear hcz6_1
        try clear hcz6_2
        try clear hfz10_0
        try clear hfz10_1
        try clear hfz10_2
        try clear hfz14_0
        try clear hfz14_1
        try clear hfz14_2
        try clear hfz16_0
        try clear hfz16_1
        try clear hfz16_2
        try clear hfz18_0
        try clear hfz18_1
        try clear hfz18_2
        try clear hfz6_0
        try clear hfz6_1
        try clear hfz6_2
        try clear p2
        obtain ⟨kq, x6_19, rfl, HA, HJ19, BK348, BK352, HB⟩ := hcut
        cases kq with
        | zero => exact absurd HA.out (by simp [coupletlaw04_FracRoots.j1])
        | succ kj19 =>
          have H := HA.out
          clear HA
          simp only [coupletlaw04_FracRoots.j1] at H
          have HC22 := Aside0.mk H
          clear H
          go_upto_region 5 with (fail)
          go_cut [23] (fun v23 wc => ∃ (kq : Nat) (x23_21 : Bool), v23 = .bool x23_21 ∧ Aside0 (coupletlaw04_FracRoots.j2 kq a1 x6_19 x23_21 a0_0 a0_1 a0_2 t349 t350 t351 = some r) ∧ Aside0 (kq ≤ kj19) ∧ Aside0 (wc.heap[gb348]? = some (.cells #[.int .i64 a0_0, .int .i64 a0_1, .bool a0_2] 23 (0, 0))) ∧ Aside0 (wc.heap[gb352]? = some (.cells #[.int .i64 t349, .int .i64 t350, .bool t351] 23 (0, 0))) ∧ Aside0 (Below w.heap.size w wc))
          case first =>
            have H := HC22.out
            clear HC22
            replace H := Option.bind_eq_some_iff.mp H
            obtain ⟨t354, A230, H⟩ := H
            replace H : (if t354 = true then (coupletlaw04_FracRoots.j2 kj19 a1 x6_19 (decide (a0_0 > 0)) a0_0 a0_1 a0_2 t349 t350 t351) else (coupletlaw04_FracRoots.j2 kj19 a1 x6_19 false a0_0 a0_1 a0_2 t349 t350 t351)) = some r := H
            have A23 := Aside0.mk A230
            clear A230
            by_cases c24 : t354 = true
            · subst c24
              have H1 : (coupletlaw04_FracRoots.j2 kj19 a1 x6_19 (decide (a0_0 > 0)) a0_0 a0_1 a0_2 t349 t350 t351) = some r := by rw [if_pos rfl] at H; exact H
              clear H
              have H := H1
              clear H1
              have H' := Aside0.mk H
              clear H
              have hnb25 := NB348_352.out
              have hnc25 := NB352_348.out
              have hcz26_0 : wc.cell? ⟨gb348, 0, none⟩ = some (.int .i64 a0_0) := (blk_cell BK348.out 0).trans rfl
              have hcz26_1 : wc.cell? ⟨gb348, 1, none⟩ = some (.int .i64 a0_1) := (blk_cell BK348.out 1).trans rfl
              have hcz26_2 : wc.cell? ⟨gb348, 2, none⟩ = some (.bool a0_2) := (blk_cell BK348.out 2).trans rfl
              have hfz26_0 := blk_frozen BK348.out 0
              have hfz26_1 := blk_frozen BK348.out 1
              have hfz26_2 := blk_frozen BK348.out 2
              go_wp2_with (first | ((with_reducible refine gate_callee (f := 13) rfl ?_); refine goesL_ (some 18) rfl rfl Try.func13 (by kernel_rfl) rfl #[.agg #[.int .i64 a0_0, .int .i64 a0_1, .bool a0_2]] rfl (by (try simp only [List.map_toArray, List.map_cons, List.map_nil]); first | done | rfl | (simp only [List.length_drop, List.length_take]; rfl)) ?_; (with_reducible refine (coupletlaw04_fine.calls kj19 a0_0 a0_1 a0_2 true _ A23.out).mono ?_); rintro e w27 ⟨rfl, hb⟩; refine ⟨_, rfl, ?_⟩; have n0_ := Aside0.mk (blk_below (g := gb348) (o := .cells #[.int .i64 a0_0, .int .i64 a0_1, .bool a0_2] 23 (0, 0)) (by (with_reducible repeat (first | refine blk_drewN ?_ _ | refine blk_drew ?_ | refine blk_alloc ?_ _)); exact BK348.out) hb); have n1_ := Aside0.mk (blk_below (g := gb352) (o := .cells #[.int .i64 t349, .int .i64 t350, .bool t351] 23 (0, 0)) (by (with_reducible repeat (first | refine blk_drewN ?_ _ | refine blk_drew ?_ | refine blk_alloc ?_ _)); exact BK352.out) hb); have n2_ := Aside0.mk (below_step (by repeat (first | (with_reducible first | exact HB.out | apply below_alloc | apply pw_below_drewN | apply below_drew1 | refine below_set ?_ GE348.out | refine below_set ?_ GE352.out) | exact HB.out)) hb); clear BK348; clear BK352; clear HB; have BK348 := n0_; have BK352 := n1_; have HB := n2_; clear n0_ n1_ n2_; (try clear hb); (try clear hb2); (try clear hk); (try clear hi); have hcz28_0 : w27.cell? ⟨gb348, 0, none⟩ = some (.int .i64 a0_0) := (blk_cell BK348.out 0).trans rfl; have hcz28_1 : w27.cell? ⟨gb348, 1, none⟩ = some (.int .i64 a0_1) := (blk_cell BK348.out 1).trans rfl; have hcz28_2 : w27.cell? ⟨gb348, 2, none⟩ = some (.bool a0_2) := (blk_cell BK348.out 2).trans rfl; have hfz28_0 := blk_frozen BK348.out 0; have hfz28_1 := blk_frozen BK348.out 1; have hfz28_2 := blk_frozen BK348.out 2))
              go_meet
              case rel => exact ⟨_, (decide (a0_0 > 0)), (by first | rfl | (simp; done) | (simp [*]; done)), H', ⟨by have := HJ3.out; have := HJ19.out; first | omega | exact Nat.le_refl _⟩, ⟨by (with_reducible repeat (first | refine blk_drewN ?_ _ | refine blk_drew ?_ | refine blk_alloc ?_ _)); exact BK348.out⟩, ⟨by (with_reducible repeat (first | refine blk_drewN ?_ _ | refine blk_drew ?_ | refine blk_alloc ?_ _)); exact BK352.out⟩, ⟨by repeat (first | (with_reducible first | exact HB.out | apply below_alloc | apply pw_below_drewN | apply below_drew1 | refine below_set ?_ GE348.out | refine below_set ?_ GE352.out) | exact HB.out)⟩⟩
            · replace c24 := Bool.eq_false_iff.mpr c24
              subst c24
              have H1 : (coupletlaw04_FracRoots.j2 kj19 a1 x6_19 false a0_0 a0_1 a0_2 t349 t350 t351) = some r := by rw [if_neg (show ¬ (false = true) by decide)] at H; exact H
              clear H
              have H := H1
              clear H1
              have H' := Aside0.mk H
              clear H
              have hnb29 := NB348_352.out
              have hnc29 := NB352_348.out
              have hcz30_0 : wc.cell? ⟨gb348, 0, none⟩ = some (.int .i64 a0_0) := (blk_cell BK348.out 0).trans rfl
              have hcz30_1 : wc.cell? ⟨gb348, 1, none⟩ = some (.int .i64 a0_1) := (blk_cell BK348.out 1).trans rfl
              have hcz30_2 : wc.cell? ⟨gb348, 2, none⟩ = some (.bool a0_2) := (blk_cell BK348.out 2).trans rfl
              have hfz30_0 := blk_frozen BK348.out 0
              have hfz30_1 := blk_frozen BK348.out 1
              have hfz30_2 := blk_frozen BK348.out 2
              go_wp2_with (first | ((with_reducible refine gate_callee (f := 13) rfl ?_); refine goesL_ (some 18) rfl rfl Try.func13 (by kernel_rfl) rfl #[.agg #[.int .i64 a0_0, .int .i64 a0_1, .bool a0_2]] rfl (by (try simp only [List.map_toArray, List.map_cons, List.map_nil]); first | done | rfl | (simp only [List.length_drop, List.length_take]; rfl)) ?_; (with_reducible refine (coupletlaw04_fine.calls kj19 a0_0 a0_1 a0_2 false _ A23.out).mono ?_); rintro e w31 ⟨rfl, hb⟩; refine ⟨_, rfl, ?_⟩; have n0_ := Aside0.mk (blk_below (g := gb348) (o := .cells #[.int .i64 a0_0, .int .i64 a0_1, .bool a0_2] 23 (0, 0)) (by (with_reducible repeat (first | refine blk_drewN ?_ _ | refine blk_drew ?_ | refine blk_alloc ?_ _)); exact BK348.out) hb); have n1_ := Aside0.mk (blk_below (g := gb352) (o := .cells #[.int .i64 t349, .int .i64 t350, .bool t351] 23 (0, 0)) (by (with_reducible repeat (first | refine blk_drewN ?_ _ | refine blk_drew ?_ | refine blk_alloc ?_ _)); exact BK352.out) hb); have n2_ := Aside0.mk (below_step (by repeat (first | (with_reducible first | exact HB.out | apply below_alloc | apply pw_below_drewN | apply below_drew1 | refine below_set ?_ GE348.out | refine below_set ?_ GE352.out) | exact HB.out)) hb); clear BK348; clear BK352; clear HB; have BK348 := n0_; have BK352 := n1_; have HB := n2_; clear n0_ n1_ n2_; (try clear hb); (try clear hb2); (try clear hk); (try clear hi)))
              go_meet
              case rel => exact ⟨_, (false), (by first | rfl | (simp; done) | (simp [*]; done)), H', ⟨by have := HJ3.out; have := HJ19.out; first | omega | exact Nat.le_refl _⟩, ⟨by (with_reducible repeat (first | refine blk_drewN ?_ _ | refine blk_drew ?_ | refine blk_alloc ?_ _)); exact BK348.out⟩, ⟨by (with_reducible repeat (first | refine blk_drewN ?_ _ | refine blk_drew ?_ | refine blk_alloc ?_ _)); exact BK352.out⟩, ⟨by repeat (first | (with_reducible first | exact HB.out | apply below_alloc | apply pw_below_drewN | apply below_drew1 | refine below_set ?_ GE348.out | refine below_set ?_ GE352.out) | exact HB.out)⟩⟩
          case rest =>
            clear HC22
            try clear c1
            try clear c2
            try clear p2
            try clear c5
            try clear c9
            try clear c12
            try clear c13
            try clear c17
            try clear c19
            try clear c21
            try clear c24
            try clear c25
            try clear c29
            try clear hcz10_0
            try clear hcz10_1
            try clear hcz10_2
            try clear hcz14_0
            try clear hcz14_1
            try clear hcz14_2
            try clear hcz16_0
            try clear hcz16_1
            try clear hcz16_2
            try clear hcz18_0
            try clear hcz18_1
            try clear hcz18_2
            try clear hcz26_0
            try clear hcz26_1
            try clear hcz26_2
            try clear hcz28_0
            try clear hcz28_1
            try clear hcz28_2
            try clear hcz30_0
            try clear hcz30_1
            try clear hcz30_2
            try clear hcz6_0
            try clear hcz6_1
            try clear hcz6_2
            try clear hfz10_0
            try clear hfz10_1
            try clear hfz10_2
            try clear hfz14_0
            try clear hfz14_1
            try clear hfz14_2
            try clear hfz16_0
            try clear hfz16_1
            try clear hfz16_2
            try clear hfz18_0
            try clear hfz18_1
            try clear hfz18_2
            try clear hfz26_0
            try clear hfz26_1
            try clear hfz26_2
            try clear hfz28_0
            try clear hfz28_1
            try clear hfz28_2
            try clear hfz30_0
            try clear hfz30_1
            try clear hfz30_2
            try clear hfz6_0
            try clear hfz6_1
            try clear hfz6_2
            try clear p2
            obtain ⟨kq, x23_21, rfl, HA, HJ21, BK348, BK352, HB⟩ := hcut
            cases kq with
            | zero => exact absurd HA.out (by simp [coupletlaw04_FracRoots.j2])
            | succ kj21 =>
              have H := HA.out
              clear HA
              simp only [coupletlaw04_FracRoots.j2] at H
              have HC32 := Aside0.mk H
              clear H
              go_upto_if 23 with (fail)
              go_cut [6] (fun v6 wc => ∃ (kq : Nat) (x6_31 : Int), v6 = .int .i64 x6_31 ∧ Aside0 (coupletlaw04_FracRoots.j3 kq a1 x6_31 a0_0 a0_1 a0_2 t349 t350 t351 = some r) ∧ Aside0 (kq ≤ kj21) ∧ Aside0 (wc.heap[gb348]? = some (.cells #[.int .i64 a0_0, .int .i64 a0_1, .bool a0_2] 23 (0, 0))) ∧ Aside0 (wc.heap[gb352]? = some (.cells #[.int .i64 t349, .int .i64 t350, .bool t351] 23 (0, 0))) ∧ Aside0 (Below w.heap.size w wc))
              case first =>
                have H := HC32.out
                clear HC32
                by_cases c33 : x23_21 = true
                · subst c33
                  have H1 : (coupletlaw04_FracRoots.j3 kj21 a1 1 a0_0 a0_1 a0_2 t349 t350 t351) = some r := by rw [if_pos rfl] at H; exact H
                  clear H
                  have H := H1
                  clear H1
                  have H' := Aside0.mk H
                  clear H
                  go_wp2
                  go_meet
                  case rel => exact ⟨_, (1), (by first | rfl | (simp; done) | (simp [*]; done)), H', ⟨by have := HJ3.out; have := HJ19.out; have := HJ21.out; first | omega | exact Nat.le_refl _⟩, ⟨by (with_reducible repeat (first | refine blk_drewN ?_ _ | refine blk_drew ?_ | refine blk_alloc ?_ _)); exact BK348.out⟩, ⟨by (with_reducible repeat (first | refine blk_drewN ?_ _ | refine blk_drew ?_ | refine blk_alloc ?_ _)); exact BK352.out⟩, ⟨by repeat (first | (with_reducible first | exact HB.out | apply below_alloc | apply pw_below_drewN | apply below_drew1 | refine below_set ?_ GE348.out | refine below_set ?_ GE352.out) | exact HB.out)⟩⟩
                · replace c33 := Bool.eq_false_iff.mpr c33
                  subst c33
                  have H1 : (coupletlaw04_FracRoots.j3 kj21 a1 x6_19 a0_0 a0_1 a0_2 t349 t350 t351) = some r := by rw [if_neg (show ¬ (false = true) by decide)] at H; exact H
                  clear H
                  have H := H1
                  clear H1
                  have H' := Aside0.mk H
                  clear H
                  go_wp2
                  go_meet
                  case rel => exact ⟨_, (x6_19), (by first | rfl | (simp; done) | (simp [*]; done)), H', ⟨by have := HJ3.out; have := HJ19.out; have := HJ21.out; first | omega | exact Nat.le_refl _⟩, ⟨by (with_reducible repeat (first | refine blk_drewN ?_ _ | refine blk_drew ?_ | refine blk_alloc ?_ _)); exact BK348.out⟩, ⟨by (with_reducible repeat (first | refine blk_drewN ?_ _ | refine blk_drew ?_ | refine blk_alloc ?_ _)); exact BK352.out⟩, ⟨by repeat (first | (with_reducible first | exact HB.out | apply below_alloc | apply pw_below_drewN | apply below_drew1 | refine below_set ?_ GE348.out | refine below_set ?_ GE352.out) | exact HB.out)⟩⟩
              case rest =>
                clear HC32
                try clear c1
                try clear c2
                try clear p2
                try clear c3
                try clear c5
                try clear c9
                try clear c12
                try clear c13
                try clear c17
                try clear c19
                try clear c21
                try clear c24
                try clear c25
                try clear c29
                try clear c33
                try clear hcz10_0
                try clear hcz10_1
                try clear hcz10_2
                try clear hcz14_0
                try clear hcz14_1
                try clear hcz14_2
                try clear hcz16_0
                try clear hcz16_1
                try clear hcz16_2
                try clear hcz18_0
                try clear hcz18_1
                try clear hcz18_2
                try clear hcz26_0
                try clear hcz26_1
                try clear hcz26_2
                try clear hcz28_0
                try clear hcz28_1
                try clear hcz28_2
                try clear hcz30_0
                try clear hcz30_1
                try clear hcz30_2
                try clear hcz6_0
                try clear hcz6_1
                try clear hcz6_2
                try clear hfz10_0
                try clear hfz10_1
                try clear hfz10_2
                try clear hfz14_0
                try clear hfz14_1
                try clear hfz14_2
                try clear hfz16_0
                try clear hfz16_1
                try clear hfz16_2
                try clear hfz18_0
                try clear hfz18_1
                try clear hfz18_2
                try clear hfz26_0
                try clear hfz26_1
                try clear hfz26_2
                try clear hfz28_0
                try clear hfz28_1
                try clear hfz28_2
                try clear hfz30_0
                try clear hfz30_1
                try clear hfz30_2
                try clear hfz6_0
                try clear hfz6_1
                try clear hfz6_2
                try clear p2
                obtain ⟨kq, x6_31, rfl, HA, HJ31, BK348, BK352, HB⟩ := hcut
                cases kq with
                | zero => exact absurd HA.out (by simp [coupletlaw04_FracRoots.j3])
                | succ kj31 =>
                  have H := HA.out
                  clear HA
                  simp only [coupletlaw04_FracRoots.j3] at H
                  replace H := Option.bind_eq_some_iff.mp H
                  obtain ⟨⟨t355, t356, t357⟩, A340, H⟩ := H
                  replace H : ((frac_Frac_Sign.f kj31 a0_0 a0_1 a0_2).bind fun t359 => (if t359 = x6_31 then ((frac_Frac_Fine.f kj31 a0_0 a0_1 a0_2).bind fun t360 => ((coupletlaw04_fine.f kj31 a0_0 a0_1 a0_2).bind fun t361 => (if (t360 != t361) = true then (coupletlaw04_FracRoots.j4 kj31 true a0_0 a0_1 a0_2 t349 t350 t351) else ((coupletlaw04_small.f a1).bind fun t362 => (if t362 = true then (if (!(t355 == a1) || (!(t356 == 1) || (t357))) = true then (coupletlaw04_FracRoots.j4 kj31 true a0_0 a0_1 a0_2 t349 t350 t351) else ((coupletlaw04_small.f a1).bind fun t363 => (if t363 = true then (coupletlaw04_FracRoots.j4 kj31 false a0_0 a0_1 a0_2 t349 t350 t351) else (coupletlaw04_FracRoots.j4 kj31 (!t357) a0_0 a0_1 a0_2 t349 t350 t351)))) else ((coupletlaw04_small.f a1).bind fun t364 => (if t364 = true then (coupletlaw04_FracRoots.j4 kj31 false a0_0 a0_1 a0_2 t349 t350 t351) else (coupletlaw04_FracRoots.j4 kj31 (!t357) a0_0 a0_1 a0_2 t349 t350 t351)))))))) else (coupletlaw04_FracRoots.j4 kj31 true a0_0 a0_1 a0_2 t349 t350 t351))) = some r := H
                  have A34 := Aside0.mk A340
                  clear A340
                  have HC35 := Aside0.mk H
                  clear H
                  have hnb36 := NB348_352.out
                  have hnc36 := NB352_348.out
                  have hcz37_0 : wc.cell? ⟨gb348, 0, none⟩ = some (.int .i64 a0_0) := (blk_cell BK348.out 0).trans rfl
                  have hcz37_1 : wc.cell? ⟨gb348, 1, none⟩ = some (.int .i64 a0_1) := (blk_cell BK348.out 1).trans rfl
                  have hcz37_2 : wc.cell? ⟨gb348, 2, none⟩ = some (.bool a0_2) := (blk_cell BK348.out 2).trans rfl
                  have hfz37_0 := blk_frozen BK348.out 0
                  have hfz37_1 := blk_frozen BK348.out 1
                  have hfz37_2 := blk_frozen BK348.out 2
                  go_upto_region 8 with (first | ((with_reducible refine gate_callee (f := 20) rfl ?_); refine goesL_ (some 26) rfl rfl Try.func20 (by kernel_rfl) rfl #[.agg #[.int .i64 a0_0, .int .i64 a0_1, .bool a0_2], .int .i64 a1] rfl (by (try simp only [List.map_toArray, List.map_cons, List.map_nil]); first | done | rfl | (simp only [List.length_drop, List.length_take]; rfl)) ?_; (with_reducible refine (frac_Frac_Of.calls kj31 a0_0 a0_1 a0_2 a1 t355 t356 t357 _ A34.out).mono ?_); rintro e w38 ⟨rfl, hb⟩; refine ⟨_, rfl, ?_⟩; have n0_ := Aside0.mk (blk_below (g := gb348) (o := .cells #[.int .i64 a0_0, .int .i64 a0_1, .bool a0_2] 23 (0, 0)) (by (with_reducible repeat (first | refine blk_drewN ?_ _ | refine blk_drew ?_ | refine blk_alloc ?_ _)); exact BK348.out) hb); have n1_ := Aside0.mk (blk_below (g := gb352) (o := .cells #[.int .i64 t349, .int .i64 t350, .bool t351] 23 (0, 0)) (by (with_reducible repeat (first | refine blk_drewN ?_ _ | refine blk_drew ?_ | refine blk_alloc ?_ _)); exact BK352.out) hb); have n2_ := Aside0.mk (below_step (by repeat (first | (with_reducible first | exact HB.out | apply below_alloc | apply pw_below_drewN | apply below_drew1 | refine below_set ?_ GE348.out | refine below_set ?_ GE352.out) | exact HB.out)) hb); clear BK348; clear BK352; clear HB; have BK348 := n0_; have BK352 := n1_; have HB := n2_; clear n0_ n1_ n2_; (try clear hb); (try clear hb2); (try clear hk); (try clear hi)) | ((with_reducible refine gate_dst (N := 7) rfl ?_); refine box_event ?hg (N := 7) ?hd (cs := #[.int .i64 0, .int .i64 0, .bool false]) (t := 23) ?hr ?_; (case hd => rfl); (case hg => rfl); (case hr => first | (go_simp; done) | (go_simp; rfl)); intro gb358 hg w39 hbox hb; have n0_ := Aside0.mk (blk_below (g := gb348) (o := .cells #[.int .i64 a0_0, .int .i64 a0_1, .bool a0_2] 23 (0, 0)) (by (with_reducible repeat (first | refine blk_drewN ?_ _ | refine blk_drew ?_ | refine blk_alloc ?_ _)); exact BK348.out) hb); have n1_ := Aside0.mk (blk_below (g := gb352) (o := .cells #[.int .i64 t349, .int .i64 t350, .bool t351] 23 (0, 0)) (by (with_reducible repeat (first | refine blk_drewN ?_ _ | refine blk_drew ?_ | refine blk_alloc ?_ _)); exact BK352.out) hb); have n2_ := Aside0.mk (below_step (by repeat (first | (with_reducible first | exact HB.out | apply below_alloc | apply pw_below_drewN | apply below_drew1 | refine below_set ?_ GE348.out | refine below_set ?_ GE352.out) | exact HB.out)) hb); have n3_ := Aside0.mk (hbox); have n4_ := Aside0.mk ((by rw [hg]; exact (below_size (by repeat (first | (with_reducible first | exact HB.out | apply below_alloc | apply pw_below_drewN | apply below_drew1 | refine below_set ?_ GE348.out | refine below_set ?_ GE352.out) | exact HB.out))) : w.heap.size ≤ gb358)); have n5_ := Aside0.mk ((by rw [hg]; exact (below_size (by repeat (first | (with_reducible first | exact HB.out | apply below_alloc | apply pw_below_drewN | apply below_drew1 | refine below_set ?_ GE348.out | refine below_set ?_ GE352.out) | exact HB.out))) : w.heap.size ≤ gb358)); have n6_ := Aside0.mk ((by rw [hg]; exact Nat.ne_of_lt (blk_lt (g := gb348) (o := .cells #[.int .i64 a0_0, .int .i64 a0_1, .bool a0_2] 23 (0, 0)) (by (with_reducible repeat (first | refine blk_drewN ?_ _ | refine blk_drew ?_ | refine blk_alloc ?_ _)); exact BK348.out)) : gb348 ≠ gb358)); have n7_ := Aside0.mk ((by rw [hg]; exact Nat.ne_of_gt (blk_lt (g := gb348) (o := .cells #[.int .i64 a0_0, .int .i64 a0_1, .bool a0_2] 23 (0, 0)) (by (with_reducible repeat (first | refine blk_drewN ?_ _ | refine blk_drew ?_ | refine blk_alloc ?_ _)); exact BK348.out)) : gb358 ≠ gb348)); have n8_ := Aside0.mk ((by rw [hg]; exact Nat.ne_of_lt (blk_lt (g := gb352) (o := .cells #[.int .i64 t349, .int .i64 t350, .bool t351] 23 (0, 0)) (by (with_reducible repeat (first | refine blk_drewN ?_ _ | refine blk_drew ?_ | refine blk_alloc ?_ _)); exact BK352.out)) : gb352 ≠ gb358)); have n9_ := Aside0.mk ((by rw [hg]; exact Nat.ne_of_gt (blk_lt (g := gb352) (o := .cells #[.int .i64 t349, .int .i64 t350, .bool t351] 23 (0, 0)) (by (with_reducible repeat (first | refine blk_drewN ?_ _ | refine blk_drew ?_ | refine blk_alloc ?_ _)); exact BK352.out)) : gb358 ≠ gb352)); clear BK348; clear BK352; clear HB; have BK348 := n0_; have BK352 := n1_; have HB := n2_; have BK358 := n3_; have GW358 := n4_; have GE358 := n5_; have NB348_358 := n6_; have NB358_348 := n7_; have NB352_358 := n8_; have NB358_352 := n9_; clear n0_ n1_ n2_ n3_ n4_ n5_ n6_ n7_ n8_ n9_; clear hb hbox hg; have hnb40 := NB358_348.out; have hnc40 := NB348_358.out; have hnb41 := NB358_352.out; have hnc41 := NB352_358.out; have hcz42_0 : w39.cell? ⟨gb358, 0, none⟩ = some (.int .i64 0) := (blk_cell BK358.out 0).trans rfl; have hcz42_1 : w39.cell? ⟨gb358, 1, none⟩ = some (.int .i64 0) := (blk_cell BK358.out 1).trans rfl; have hcz42_2 : w39.cell? ⟨gb358, 2, none⟩ = some (.bool false) := (blk_cell BK358.out 2).trans rfl; have hfz42_0 := blk_frozen BK358.out 0; have hfz42_1 := blk_frozen BK358.out 1; have hfz42_2 := blk_frozen BK358.out 2))
                  (try simp only [Act.put, List.setIfInBounds_toArray, List.set_cons_zero, List.set_cons_succ])
                  go_cut [57] (fun v57 wc => ∃ (kq : Nat) (x57_34 : Bool), v57 = .bool x57_34 ∧ Aside0 (coupletlaw04_FracRoots.j4 kq x57_34 a0_0 a0_1 a0_2 t349 t350 t351 = some r) ∧ Aside0 (kq ≤ kj31) ∧ Aside0 (wc.heap[gb348]? = some (.cells #[.int .i64 a0_0, .int .i64 a0_1, .bool a0_2] 23 (0, 0))) ∧ Aside0 (wc.heap[gb352]? = some (.cells #[.int .i64 t349, .int .i64 t350, .bool t351] 23 (0, 0))) ∧ Aside0 (wc.heap[gb358]? = some (.cells #[.int .i64 t355, .int .i64 t356, .bool t357] 23 (0, 0))) ∧ Aside0 (Below w.heap.size w wc))
                  case first =>
                    have H := HC35.out
                    clear HC35
                    replace H := Option.bind_eq_some_iff.mp H
                    obtain ⟨t359, A430, H⟩ := H
                    replace H : (if t359 = x6_31 then ((frac_Frac_Fine.f kj31 a0_0 a0_1 a0_2).bind fun t360 => ((coupletlaw04_fine.f kj31 a0_0 a0_1 a0_2).bind fun t361 => (if (t360 != t361) = true then (coupletlaw04_FracRoots.j4 kj31 true a0_0 a0_1 a0_2 t349 t350 t351) else ((coupletlaw04_small.f a1).bind fun t362 => (if t362 = true then (if (!(t355 == a1) || (!(t356 == 1) || (t357))) = true then (coupletlaw04_FracRoots.j4 kj31 true a0_0 a0_1 a0_2 t349 t350 t351) else ((coupletlaw04_small.f a1).bind fun t363 => (if t363 = true then (coupletlaw04_FracRoots.j4 kj31 false a0_0 a0_1 a0_2 t349 t350 t351) else (coupletlaw04_FracRoots.j4 kj31 (!t357) a0_0 a0_1 a0_2 t349 t350 t351)))) else ((coupletlaw04_small.f a1).bind fun t364 => (if t364 = true then (coupletlaw04_FracRoots.j4 kj31 false a0_0 a0_1 a0_2 t349 t350 t351) else (coupletlaw04_FracRoots.j4 kj31 (!t357) a0_0 a0_1 a0_2 t349 t350 t351)))))))) else (coupletlaw04_FracRoots.j4 kj31 true a0_0 a0_1 a0_2 t349 t350 t351)) = some r := H
                    have A43 := Aside0.mk A430
                    clear A430
                    by_cases c44 : t359 = x6_31
                    · rw [if_pos c44] at H
                      have c44b0 : (t359 == x6_31) = true := beq_iff_eq.mpr c44
                      have c44b1 : (t359 != x6_31) = false := bne_eq_false_iff_eq.mpr c44
                      clear c44
                      (first | rw [c44b0] | (simp only [i64_w, i32_w]; rw [c44b0]) | skip)
                      replace H := Option.bind_eq_some_iff.mp H
                      obtain ⟨t360, A450, H⟩ := H
                      replace H : ((coupletlaw04_fine.f kj31 a0_0 a0_1 a0_2).bind fun t361 => (if (t360 != t361) = true then (coupletlaw04_FracRoots.j4 kj31 true a0_0 a0_1 a0_2 t349 t350 t351) else ((coupletlaw04_small.f a1).bind fun t362 => (if t362 = true then (if (!(t355 == a1) || (!(t356 == 1) || (t357))) = true then (coupletlaw04_FracRoots.j4 kj31 true a0_0 a0_1 a0_2 t349 t350 t351) else ((coupletlaw04_small.f a1).bind fun t363 => (if t363 = true then (coupletlaw04_FracRoots.j4 kj31 false a0_0 a0_1 a0_2 t349 t350 t351) else (coupletlaw04_FracRoots.j4 kj31 (!t357) a0_0 a0_1 a0_2 t349 t350 t351)))) else ((coupletlaw04_small.f a1).bind fun t364 => (if t364 = true then (coupletlaw04_FracRoots.j4 kj31 false a0_0 a0_1 a0_2 t349 t350 t351) else (coupletlaw04_FracRoots.j4 kj31 (!t357) a0_0 a0_1 a0_2 t349 t350 t351))))))) = some r := H
                      have A45 := Aside0.mk A450
                      clear A450
                      replace H := Option.bind_eq_some_iff.mp H
                      obtain ⟨t361, A460, H⟩ := H
                      replace H : (if (t360 != t361) = true then (coupletlaw04_FracRoots.j4 kj31 true a0_0 a0_1 a0_2 t349 t350 t351) else ((coupletlaw04_small.f a1).bind fun t362 => (if t362 = true then (if (!(t355 == a1) || (!(t356 == 1) || (t357))) = true then (coupletlaw04_FracRoots.j4 kj31 true a0_0 a0_1 a0_2 t349 t350 t351) else ((coupletlaw04_small.f a1).bind fun t363 => (if t363 = true then (coupletlaw04_FracRoots.j4 kj31 false a0_0 a0_1 a0_2 t349 t350 t351) else (coupletlaw04_FracRoots.j4 kj31 (!t357) a0_0 a0_1 a0_2 t349 t350 t351)))) else ((coupletlaw04_small.f a1).bind fun t364 => (if t364 = true then (coupletlaw04_FracRoots.j4 kj31 false a0_0 a0_1 a0_2 t349 t350 t351) else (coupletlaw04_FracRoots.j4 kj31 (!t357) a0_0 a0_1 a0_2 t349 t350 t351)))))) = some r := H
                      have A46 := Aside0.mk A460
                      clear A460
                      by_cases c47 : (t360 != t361) = true
                      · rw [if_pos c47] at H
                        have c47b0 : (t360 != t361) = true := c47
                        (try (have c47b1 : decide (t360 = t361) = false := by simpa using c47))
                        (try (have c47b2 : (t360 == t361) = false := by simpa using c47))
                        (try (have c47b3 : ¬ (t360 = t361) := by simpa using c47))
                        clear c47
                        have H' := Aside0.mk H
                        clear H
                        try go_wp2
                        have n0_ : Aside0 ((((w39.setCell ⟨gb358, 0, none⟩ (.int .i64 t355)).setCell ⟨gb358, 1, none⟩ (.int .i64 t356)).setCell ⟨gb358, 2, none⟩ (.bool t357)).heap[gb348]? = some (.cells #[.int .i64 a0_0, .int .i64 a0_1, .bool a0_2] 23 (0, 0))) := ⟨by (with_reducible repeat (first | refine blk_drewN ?_ _ | refine blk_drew ?_ | refine blk_alloc ?_ _)); refine blk_far ?_ NB348_358.out _; (with_reducible repeat (first | refine blk_drewN ?_ _ | refine blk_drew ?_ | refine blk_alloc ?_ _)); refine blk_far ?_ NB348_358.out _; (with_reducible repeat (first | refine blk_drewN ?_ _ | refine blk_drew ?_ | refine blk_alloc ?_ _)); refine blk_far ?_ NB348_358.out _; (with_reducible repeat (first | refine blk_drewN ?_ _ | refine blk_drew ?_ | refine blk_alloc ?_ _)); exact BK348.out⟩
                        have n1_ : Aside0 ((((w39.setCell ⟨gb358, 0, none⟩ (.int .i64 t355)).setCell ⟨gb358, 1, none⟩ (.int .i64 t356)).setCell ⟨gb358, 2, none⟩ (.bool t357)).heap[gb352]? = some (.cells #[.int .i64 t349, .int .i64 t350, .bool t351] 23 (0, 0))) := ⟨by (with_reducible repeat (first | refine blk_drewN ?_ _ | refine blk_drew ?_ | refine blk_alloc ?_ _)); refine blk_far ?_ NB352_358.out _; (with_reducible repeat (first | refine blk_drewN ?_ _ | refine blk_drew ?_ | refine blk_alloc ?_ _)); refine blk_far ?_ NB352_358.out _; (with_reducible repeat (first | refine blk_drewN ?_ _ | refine blk_drew ?_ | refine blk_alloc ?_ _)); refine blk_far ?_ NB352_358.out _; (with_reducible repeat (first | refine blk_drewN ?_ _ | refine blk_drew ?_ | refine blk_alloc ?_ _)); exact BK352.out⟩
                        have n2_ : Aside0 ((((w39.setCell ⟨gb358, 0, none⟩ (.int .i64 t355)).setCell ⟨gb358, 1, none⟩ (.int .i64 t356)).setCell ⟨gb358, 2, none⟩ (.bool t357)).heap[gb358]? = some (.cells #[.int .i64 t355, .int .i64 t356, .bool t357] 23 (0, 0))) := ⟨by (with_reducible repeat (first | refine blk_drewN ?_ _ | refine blk_drew ?_ | refine blk_alloc ?_ _)); refine blk_put (cs := #[.int .i64 t355, .int .i64 t356, .bool false]) ?_ 2 _ rfl; (with_reducible repeat (first | refine blk_drewN ?_ _ | refine blk_drew ?_ | refine blk_alloc ?_ _)); refine blk_put (cs := #[.int .i64 t355, .int .i64 0, .bool false]) ?_ 1 _ rfl; (with_reducible repeat (first | refine blk_drewN ?_ _ | refine blk_drew ?_ | refine blk_alloc ?_ _)); refine blk_put (cs := #[.int .i64 0, .int .i64 0, .bool false]) ?_ 0 _ rfl; (with_reducible repeat (first | refine blk_drewN ?_ _ | refine blk_drew ?_ | refine blk_alloc ?_ _)); exact BK358.out⟩
                        have n3_ : Aside0 (Below w.heap.size w (((w39.setCell ⟨gb358, 0, none⟩ (.int .i64 t355)).setCell ⟨gb358, 1, none⟩ (.int .i64 t356)).setCell ⟨gb358, 2, none⟩ (.bool t357))) := ⟨by repeat (first | (with_reducible first | exact HB.out | apply below_alloc | apply pw_below_drewN | apply below_drew1 | refine below_set ?_ GE348.out | refine below_set ?_ GE352.out | refine below_set ?_ GE358.out) | exact HB.out)⟩
                        (try clear BK348)
                        (try clear BK352)
                        (try clear BK358)
                        (try clear HB)
                        generalize (((w39.setCell ⟨gb358, 0, none⟩ (.int .i64 t355)).setCell ⟨gb358, 1, none⟩ (.int .i64 t356)).setCell ⟨gb358, 2, none⟩ (.bool t357)) = w48 at n0_ n1_ n2_ n3_ ⊢
                        have BK348 := n0_
                        have BK352 := n1_
                        have BK358 := n2_
                        have HB := n3_
                        clear n0_ n1_ n2_ n3_
                        have n0_ := Aside0.mk (blk_drew BK348.out)
                        have n1_ := Aside0.mk (blk_drew BK352.out)
                        have n2_ := Aside0.mk (blk_drew BK358.out)
                        have n3_ := Aside0.mk (below_drew1 HB.out)
                        clear BK348
                        clear BK352
                        clear BK358
                        clear HB
                        have BK348 := n0_
                        have BK352 := n1_
                        have BK358 := n2_
                        have HB := n3_
                        clear n0_ n1_ n2_ n3_
                        refine start_ (n := 31) (S := fun w' => w'.cell? ⟨gb348, 0, none⟩ = some (.int .i64 a0_0) ∧ w'.cell? ⟨gb348, 1, none⟩ = some (.int .i64 a0_1) ∧ w'.cell? ⟨gb348, 2, none⟩ = some (.bool a0_2)) (ds := []) #[false, false, false, false, false, false, false, false, false, false, false, false, false, false, false, false, false, false, false, false, false, false, false, false, false, false, false, false, false, false, false] (by kernel_rfl) rfl rfl ⟨(blk_cell BK348.out 0).trans rfl, (blk_cell BK348.out 1).trans rfl, (blk_cell BK348.out 2).trans rfl⟩ (fun hHeld => ?_); refine with_tabW coupletlaw04_FracRoots.tab8 coupletlaw04_FracRoots.bits8 (fun HT_ HW_ => ?_)
                        generalize w48.drew = w49 at BK348 BK352 BK358 HB hHeld ⊢
                        refine pure_ (i := 2) (N := some 29) (v := ?_) (a' := ?_) #[false, false, true, false, false, false, false, false, false, false, false, false, false, false, false, false, false, false, false, false, false, false, false, false, false, false, false, false, false, false, false] rfl rfl (any_of HT_.out (by kernel_rfl)) (fun _ _ _ h => h) (Or.inl ⟨by rfl, ?_⟩) ?_ ?_
                        rotate_left
                        · intro w'
                          go_simp
                          with_reducible rfl
                        rotate_left
                        · simp only [Act.put, List.setIfInBounds_toArray, List.set_cons_zero, List.set_cons_succ, i64_w, i32_w]
                          rfl
                        refine take_ (i := 0) (N := some 27) (v := ?_) (a' := ?_) #[true, false, true, false, false, false, false, false, false, false, false, false, false, false, false, false, false, false, false, false, false, false, false, false, false, false, false, false, false, false, false] rfl rfl (take_ofW HT_.out HW_.out (by kernel_rfl)) (fun _ _ _ h => h) (Or.inl ⟨by rfl, ?_⟩) hHeld ?_ ?_
                        rotate_left
                        · rintro w' ⟨s0, s1, s2⟩
                          go_simp
                          with_reducible rfl
                        rotate_left
                        · simp only [Act.put, List.setIfInBounds_toArray, List.set_cons_zero, List.set_cons_succ, i64_w, i32_w]
                          rfl
                        refine one_ (i := 1) (N := some 28) #[true, true, true, false, false, false, false, false, false, false, false, false, false, false, false, false, false, false, false, false, false, false, false, false, false, false, false, false, false, false, false] rfl rfl (one_of HT_.out (by kernel_rfl)) (by decide) (fun K hK => ?_)
                        refine goes_ Try.func21 (by kernel_rfl) rfl #[.agg #[.int .i64 a0_0, .int .i64 a0_1, .bool a0_2]] (by rfl) rfl rfl (by (try simp only [List.map_toArray, List.map_cons, List.map_nil]); first | done | rfl | (simp only [List.length_drop, List.length_take]; rfl)) ?_
                        with_reducible refine (frac_Frac_Sign.calls kj31 a0_0 a0_1 a0_2 t359 _ A43.out).mono ?_
                        rintro e w50 ⟨rfl, hb⟩
                        refine ⟨_, rfl, ?_⟩
                        have n0_ := Aside0.mk (blk_below (g := gb348) (o := .cells #[.int .i64 a0_0, .int .i64 a0_1, .bool a0_2] 23 (0, 0)) (by (with_reducible repeat (first | refine blk_drewN ?_ _ | refine blk_drew ?_ | refine blk_alloc ?_ _)); exact BK348.out) hb)
                        have n1_ := Aside0.mk (blk_below (g := gb352) (o := .cells #[.int .i64 t349, .int .i64 t350, .bool t351] 23 (0, 0)) (by (with_reducible repeat (first | refine blk_drewN ?_ _ | refine blk_drew ?_ | refine blk_alloc ?_ _)); exact BK352.out) hb)
                        have n2_ := Aside0.mk (blk_below (g := gb358) (o := .cells #[.int .i64 t355, .int .i64 t356, .bool t357] 23 (0, 0)) (by (with_reducible repeat (first | refine blk_drewN ?_ _ | refine blk_drew ?_ | refine blk_alloc ?_ _)); exact BK358.out) hb)
                        have n3_ := Aside0.mk (below_step (by repeat (first | (with_reducible first | exact HB.out | apply below_alloc | apply pw_below_drewN | apply below_drew1 | refine below_set ?_ GE348.out | refine below_set ?_ GE352.out | refine below_set ?_ GE358.out) | exact HB.out)) hb)
                        clear BK348
                        clear BK352
                        clear BK358
                        clear HB
                        have BK348 := n0_
                        have BK352 := n1_
                        have BK358 := n2_
                        have HB := n3_
                        clear n0_ n1_ n2_ n3_
                        (try clear hb)
                        (try clear hb2)
                        (try clear hk)
                        (try clear hi)
                        refine hK.out _ _ ⟨(blk_cell BK348.out 0).trans rfl, (blk_cell BK348.out 1).trans rfl, (blk_cell BK348.out 2).trans rfl⟩ (fun hHeld => ?_)
                        clear hK K
                        refine norm_ (a' := ?_) ?_ ?_
                        rotate_left
                        · show Act.put _ (some 28) _ = _
                          simp only [Act.put, List.setIfInBounds_toArray, List.set_cons_zero, List.set_cons_succ, i64_w, i32_w]
                          rfl
                        refine pure_ (i := 3) (N := some 30) (v := ?_) (a' := ?_) #[true, true, true, true, false, false, false, false, false, false, false, false, false, false, false, false, false, false, false, false, false, false, false, false, false, false, false, false, false, false, false] rfl rfl (any_of HT_.out (by kernel_rfl)) (fun _ _ _ h => h) (Or.inl ⟨by rfl, ?_⟩) ?_ ?_
                        rotate_left
                        · intro w'
                          go_simp
                          with_reducible rfl
                        rotate_left
                        · simp only [Act.put, List.setIfInBounds_toArray, List.set_cons_zero, List.set_cons_succ, i64_w, i32_w]
                          rfl
                        refine pure_ (i := 4) (N := some 31) (v := ?_) (a' := ?_) #[true, true, true, true, true, false, false, false, false, false, false, false, false, false, false, false, false, false, false, false, false, false, false, false, false, false, false, false, false, false, false] rfl rfl (any_of HT_.out (by kernel_rfl)) (fun _ _ _ h => h) (Or.inl ⟨by rfl, ?_⟩) ?_ ?_
                        rotate_left
                        · intro w'
                          go_simp
                          with_reducible rfl
                        rotate_left
                        · simp only [Act.put, List.setIfInBounds_toArray, List.set_cons_zero, List.set_cons_succ, i64_w, i32_w]
                          rfl
                        refine take_ (i := 5) (N := some 32) (v := ?_) (a' := ?_) #[true, true, true, true, true, true, false, false, false, false, false, false, false, false, false, false, false, false, false, false, false, false, false, false, false, false, false, false, false, false, false] rfl rfl (take_ofW HT_.out HW_.out (by kernel_rfl)) (fun _ _ _ h => h) (Or.inl ⟨by rfl, ?_⟩) hHeld ?_ ?_
                        rotate_left
                        · rintro w' ⟨s0, s1, s2⟩
                          go_simp
                          with_reducible rfl
                        rotate_left
                        · simp only [Act.put, List.setIfInBounds_toArray, List.set_cons_zero, List.set_cons_succ, i64_w, i32_w]
                          rfl
                        refine take_ (i := 7) (N := some 34) (v := ?_) (a' := ?_) #[true, true, true, true, true, true, false, true, false, false, false, false, false, false, false, false, false, false, false, false, false, false, false, false, false, false, false, false, false, false, false] rfl rfl (take_ofW HT_.out HW_.out (by kernel_rfl)) (fun _ _ _ h => h) (Or.inl ⟨by rfl, ?_⟩) hHeld ?_ ?_
                        rotate_left
                        · rintro w' ⟨s0, s1, s2⟩
                          go_simp
                          with_reducible rfl
                        rotate_left
                        · simp only [Act.put, List.setIfInBounds_toArray, List.set_cons_zero, List.set_cons_succ, i64_w, i32_w]
                          rfl
                        refine one_ (i := 6) (N := some 33) #[true, true, true, true, true, true, true, true, false, false, false, false, false, false, false, false, false, false, false, false, false, false, false, false, false, false, false, false, false, false, false] rfl rfl (one_of HT_.out (by kernel_rfl)) (by decide) (fun K hK => ?_)
                        refine goes_ Try.func14 (by kernel_rfl) rfl #[.agg #[.int .i64 a0_0, .int .i64 a0_1, .bool a0_2]] (by rfl) rfl rfl (by (try simp only [List.map_toArray, List.map_cons, List.map_nil]); first | done | rfl | (simp only [List.length_drop, List.length_take]; rfl)) ?_
                        with_reducible refine (frac_Frac_Fine.calls kj31 a0_0 a0_1 a0_2 t360 _ A45.out).mono ?_
                        rintro e w51 ⟨rfl, hb⟩
                        refine ⟨_, rfl, ?_⟩
                        have n0_ := Aside0.mk (blk_below (g := gb348) (o := .cells #[.int .i64 a0_0, .int .i64 a0_1, .bool a0_2] 23 (0, 0)) (by (with_reducible repeat (first | refine blk_drewN ?_ _ | refine blk_drew ?_ | refine blk_alloc ?_ _)); exact BK348.out) hb)
                        have n1_ := Aside0.mk (blk_below (g := gb352) (o := .cells #[.int .i64 t349, .int .i64 t350, .bool t351] 23 (0, 0)) (by (with_reducible repeat (first | refine blk_drewN ?_ _ | refine blk_drew ?_ | refine blk_alloc ?_ _)); exact BK352.out) hb)
                        have n2_ := Aside0.mk (blk_below (g := gb358) (o := .cells #[.int .i64 t355, .int .i64 t356, .bool t357] 23 (0, 0)) (by (with_reducible repeat (first | refine blk_drewN ?_ _ | refine blk_drew ?_ | refine blk_alloc ?_ _)); exact BK358.out) hb)
                        have n3_ := Aside0.mk (below_step (by repeat (first | (with_reducible first | exact HB.out | apply below_alloc | apply pw_below_drewN | apply below_drew1 | refine below_set ?_ GE348.out | refine below_set ?_ GE352.out | refine below_set ?_ GE358.out) | exact HB.out)) hb)
                        clear BK348
                        clear BK352
                        clear BK358
                        clear HB
                        have BK348 := n0_
                        have BK352 := n1_
                        have BK358 := n2_
                        have HB := n3_
                        clear n0_ n1_ n2_ n3_
                        (try clear hb)
                        (try clear hb2)
                        (try clear hk)
                        (try clear hi)
                        refine hK.out _ _ ⟨(blk_cell BK348.out 0).trans rfl, (blk_cell BK348.out 1).trans rfl, (blk_cell BK348.out 2).trans rfl⟩ (fun hHeld => ?_)
                        clear hK K
                        refine norm_ (a' := ?_) ?_ ?_
                        rotate_left
                        · show Act.put _ (some 33) _ = _
                          simp only [Act.put, List.setIfInBounds_toArray, List.set_cons_zero, List.set_cons_succ, i64_w, i32_w]
                          rfl
                        refine one_ (i := 8) (N := some 35) #[true, true, true, true, true, true, true, true, true, false, false, false, false, false, false, false, false, false, false, false, false, false, false, false, false, false, false, false, false, false, false] rfl rfl (one_of HT_.out (by kernel_rfl)) (by decide) (fun K hK => ?_)
                        refine goes_ Try.func13 (by kernel_rfl) rfl #[.agg #[.int .i64 a0_0, .int .i64 a0_1, .bool a0_2]] (by rfl) rfl rfl (by (try simp only [List.map_toArray, List.map_cons, List.map_nil]); first | done | rfl | (simp only [List.length_drop, List.length_take]; rfl)) ?_
                        with_reducible refine (coupletlaw04_fine.calls kj31 a0_0 a0_1 a0_2 t361 _ A46.out).mono ?_
                        rintro e w52 ⟨rfl, hb⟩
                        refine ⟨_, rfl, ?_⟩
                        have n0_ := Aside0.mk (blk_below (g := gb348) (o := .cells #[.int .i64 a0_0, .int .i64 a0_1, .bool a0_2] 23 (0, 0)) (by (with_reducible repeat (first | refine blk_drewN ?_ _ | refine blk_drew ?_ | refine blk_alloc ?_ _)); exact BK348.out) hb)
                        have n1_ := Aside0.mk (blk_below (g := gb352) (o := .cells #[.int .i64 t349, .int .i64 t350, .bool t351] 23 (0, 0)) (by (with_reducible repeat (first | refine blk_drewN ?_ _ | refine blk_drew ?_ | refine blk_alloc ?_ _)); exact BK352.out) hb)
                        have n2_ := Aside0.mk (blk_below (g := gb358) (o := .cells #[.int .i64 t355, .int .i64 t356, .bool t357] 23 (0, 0)) (by (with_reducible repeat (first | refine blk_drewN ?_ _ | refine blk_drew ?_ | refine blk_alloc ?_ _)); exact BK358.out) hb)
                        have n3_ := Aside0.mk (below_step (by repeat (first | (with_reducible first | exact HB.out | apply below_alloc | apply pw_below_drewN | apply below_drew1 | refine below_set ?_ GE348.out | refine below_set ?_ GE352.out | refine below_set ?_ GE358.out) | exact HB.out)) hb)
                        clear BK348
                        clear BK352
                        clear BK358
                        clear HB
                        have BK348 := n0_
                        have BK352 := n1_
                        have BK358 := n2_
                        have HB := n3_
                        clear n0_ n1_ n2_ n3_
                        (try clear hb)
                        (try clear hb2)
                        (try clear hk)
                        (try clear hi)
                        refine hK.out _ _ ⟨(blk_cell BK348.out 0).trans rfl, (blk_cell BK348.out 1).trans rfl, (blk_cell BK348.out 2).trans rfl⟩ (fun hHeld => ?_)
                        clear hK K
                        refine norm_ (a' := ?_) ?_ ?_
                        rotate_left
                        · show Act.put _ (some 35) _ = _
                          simp only [Act.put, List.setIfInBounds_toArray, List.set_cons_zero, List.set_cons_succ, i64_w, i32_w]
                          rfl
                        refine pure_ (i := 9) (N := some 36) (v := ?_) (a' := ?_) #[true, true, true, true, true, true, true, true, true, true, false, false, false, false, false, false, false, false, false, false, false, false, false, false, false, false, false, false, false, false, false] rfl rfl (any_of HT_.out (by kernel_rfl)) (fun _ _ _ h => h) (Or.inl ⟨by rfl, ?_⟩) ?_ ?_
                        rotate_left
                        · intro w'
                          go_simp
                          with_reducible rfl
                        rotate_left
                        · simp only [Act.put, List.setIfInBounds_toArray, List.set_cons_zero, List.set_cons_succ, i64_w, i32_w]
                          rfl
                        refine pure_ (i := 10) (N := some 37) (v := ?_) (a' := ?_) #[true, true, true, true, true, true, true, true, true, true, true, false, false, false, false, false, false, false, false, false, false, false, false, false, false, false, false, false, false, false, false] rfl rfl (any_of HT_.out (by kernel_rfl)) (fun _ _ _ h => h) (Or.inl ⟨by rfl, ?_⟩) ?_ ?_
                        rotate_left
                        · intro w'
                          go_simp
                          with_reducible rfl
                        rotate_left
                        · simp only [Act.put, List.setIfInBounds_toArray, List.set_cons_zero, List.set_cons_succ, i64_w, i32_w]
                          rfl
                        refine pure_ (i := 11) (N := some 38) (v := ?_) (a' := ?_) #[true, true, true, true, true, true, true, true, true, true, true, true, false, false, false, false, false, false, false, false, false, false, false, false, false, false, false, false, false, false, false] rfl rfl (any_of HT_.out (by kernel_rfl)) (fun _ _ _ h => h) (Or.inl ⟨by rfl, ?_⟩) ?_ ?_
                        rotate_left
                        · intro w'
                          go_simp
                          with_reducible rfl
                        rotate_left
                        · simp only [Act.put, List.setIfInBounds_toArray, List.set_cons_zero, List.set_cons_succ, i64_w, i32_w]
                          rfl
                        refine pure_ (i := 12) (N := some 39) (v := undef) (a' := ?_) #[true, true, true, true, true, true, true, true, true, true, true, true, true, false, false, false, false, false, false, false, false, false, false, false, false, false, false, false, false, false, false] rfl rfl (any_of HT_.out (by kernel_rfl)) (fun _ _ _ h => h) (Or.inr ⟨by rfl, rfl⟩) ?_ ?_
                        rotate_left
                        · simp only [Act.put, List.setIfInBounds_toArray, List.set_cons_zero, List.set_cons_succ, i64_w, i32_w]
                          rfl
                        refine pure_ (i := 13) (N := some 40) (v := undef) (a' := ?_) #[true, true, true, true, true, true, true, true, true, true, true, true, true, true, false, false, false, false, false, false, false, false, false, false, false, false, false, false, false, false, false] rfl rfl (any_of HT_.out (by kernel_rfl)) (fun _ _ _ h => h) (Or.inr ⟨by rfl, rfl⟩) ?_ ?_
                        rotate_left
                        · simp only [Act.put, List.setIfInBounds_toArray, List.set_cons_zero, List.set_cons_succ, i64_w, i32_w]
                          rfl
                        refine pure_ (i := 14) (N := some 41) (v := undef) (a' := ?_) #[true, true, true, true, true, true, true, true, true, true, true, true, true, true, true, false, false, false, false, false, false, false, false, false, false, false, false, false, false, false, false] rfl rfl (any_of HT_.out (by kernel_rfl)) (fun _ _ _ h => h) (Or.inr ⟨by rfl, rfl⟩) ?_ ?_
                        rotate_left
                        · simp only [Act.put, List.setIfInBounds_toArray, List.set_cons_zero, List.set_cons_succ, i64_w, i32_w]
                          rfl
                        refine pure_ (i := 15) (N := some 42) (v := undef) (a' := ?_) #[true, true, true, true, true, true, true, true, true, true, true, true, true, true, true, true, false, false, false, false, false, false, false, false, false, false, false, false, false, false, false] rfl rfl (any_of HT_.out (by kernel_rfl)) (fun _ _ _ h => h) (Or.inr ⟨by rfl, rfl⟩) ?_ ?_
                        rotate_left
                        · simp only [Act.put, List.setIfInBounds_toArray, List.set_cons_zero, List.set_cons_succ, i64_w, i32_w]
                          rfl
                        refine pure_ (i := 16) (N := some 43) (v := undef) (a' := ?_) #[true, true, true, true, true, true, true, true, true, true, true, true, true, true, true, true, true, false, false, false, false, false, false, false, false, false, false, false, false, false, false] rfl rfl (any_of HT_.out (by kernel_rfl)) (fun _ _ _ h => h) (Or.inr ⟨by rfl, rfl⟩) ?_ ?_
                        rotate_left
                        · simp only [Act.put, List.setIfInBounds_toArray, List.set_cons_zero, List.set_cons_succ, i64_w, i32_w]
                          rfl
                        refine pure_ (i := 17) (N := some 44) (v := undef) (a' := ?_) #[true, true, true, true, true, true, true, true, true, true, true, true, true, true, true, true, true, true, false, false, false, false, false, false, false, false, false, false, false, false, false] rfl rfl (any_of HT_.out (by kernel_rfl)) (fun _ _ _ h => h) (Or.inr ⟨by rfl, rfl⟩) ?_ ?_
                        rotate_left
                        · simp only [Act.put, List.setIfInBounds_toArray, List.set_cons_zero, List.set_cons_succ, i64_w, i32_w]
                          rfl
                        refine pure_ (i := 18) (N := some 45) (v := undef) (a' := ?_) #[true, true, true, true, true, true, true, true, true, true, true, true, true, true, true, true, true, true, true, false, false, false, false, false, false, false, false, false, false, false, false] rfl rfl (any_of HT_.out (by kernel_rfl)) (fun _ _ _ h => h) (Or.inr ⟨by rfl, rfl⟩) ?_ ?_
                        rotate_left
                        · simp only [Act.put, List.setIfInBounds_toArray, List.set_cons_zero, List.set_cons_succ, i64_w, i32_w]
                          rfl
                        refine pure_ (i := 19) (N := some 46) (v := undef) (a' := ?_) #[true, true, true, true, true, true, true, true, true, true, true, true, true, true, true, true, true, true, true, true, false, false, false, false, false, false, false, false, false, false, false] rfl rfl (any_of HT_.out (by kernel_rfl)) (fun _ _ _ h => h) (Or.inr ⟨by rfl, rfl⟩) ?_ ?_
                        rotate_left
                        · simp only [Act.put, List.setIfInBounds_toArray, List.set_cons_zero, List.set_cons_succ, i64_w, i32_w]
                          rfl
                        refine pure_ (i := 20) (N := some 47) (v := ?_) (a' := ?_) #[true, true, true, true, true, true, true, true, true, true, true, true, true, true, true, true, true, true, true, true, true, false, false, false, false, false, false, false, false, false, false] rfl rfl (any_of HT_.out (by kernel_rfl)) (fun _ _ _ h => h) (Or.inl ⟨by rfl, ?_⟩) ?_ ?_
                        rotate_left
                        · intro w'
                          go_simp
                          with_reducible rfl
                        rotate_left
                        · simp only [Act.put, List.setIfInBounds_toArray, List.set_cons_zero, List.set_cons_succ, i64_w, i32_w]
                          rfl
                        refine pure_ (i := 21) (N := some 48) (v := ?_) (a' := ?_) #[true, true, true, true, true, true, true, true, true, true, true, true, true, true, true, true, true, true, true, true, true, true, false, false, false, false, false, false, false, false, false] rfl rfl (any_of HT_.out (by kernel_rfl)) (fun _ _ _ h => h) (Or.inl ⟨by rfl, ?_⟩) ?_ ?_
                        rotate_left
                        · intro w'
                          go_simp
                          with_reducible rfl
                        rotate_left
                        · simp only [Act.put, List.setIfInBounds_toArray, List.set_cons_zero, List.set_cons_succ, i64_w, i32_w]
                          rfl
                        refine pure_ (i := 22) (N := some 49) (v := undef) (a' := ?_) #[true, true, true, true, true, true, true, true, true, true, true, true, true, true, true, true, true, true, true, true, true, true, true, false, false, false, false, false, false, false, false] rfl rfl (any_of HT_.out (by kernel_rfl)) (fun _ _ _ h => h) (Or.inr ⟨by rfl, rfl⟩) ?_ ?_
                        rotate_left
                        · simp only [Act.put, List.setIfInBounds_toArray, List.set_cons_zero, List.set_cons_succ, i64_w, i32_w]
                          rfl
                        refine pure_ (i := 23) (N := some 50) (v := undef) (a' := ?_) #[true, true, true, true, true, true, true, true, true, true, true, true, true, true, true, true, true, true, true, true, true, true, true, true, false, false, false, false, false, false, false] rfl rfl (any_of HT_.out (by kernel_rfl)) (fun _ _ _ h => h) (Or.inr ⟨by rfl, rfl⟩) ?_ ?_
                        rotate_left
                        · simp only [Act.put, List.setIfInBounds_toArray, List.set_cons_zero, List.set_cons_succ, i64_w, i32_w]
                          rfl
                        refine pure_ (i := 24) (N := some 51) (v := undef) (a' := ?_) #[true, true, true, true, true, true, true, true, true, true, true, true, true, true, true, true, true, true, true, true, true, true, true, true, true, false, false, false, false, false, false] rfl rfl (any_of HT_.out (by kernel_rfl)) (fun _ _ _ h => h) (Or.inr ⟨by rfl, rfl⟩) ?_ ?_
                        rotate_left
                        · simp only [Act.put, List.setIfInBounds_toArray, List.set_cons_zero, List.set_cons_succ, i64_w, i32_w]
                          rfl
                        refine pure_ (i := 25) (N := some 52) (v := undef) (a' := ?_) #[true, true, true, true, true, true, true, true, true, true, true, true, true, true, true, true, true, true, true, true, true, true, true, true, true, true, false, false, false, false, false] rfl rfl (any_of HT_.out (by kernel_rfl)) (fun _ _ _ h => h) (Or.inr ⟨by rfl, rfl⟩) ?_ ?_
                        rotate_left
                        · simp only [Act.put, List.setIfInBounds_toArray, List.set_cons_zero, List.set_cons_succ, i64_w, i32_w]
                          rfl
                        refine pure_ (i := 26) (N := some 53) (v := undef) (a' := ?_) #[true, true, true, true, true, true, true, true, true, true, true, true, true, true, true, true, true, true, true, true, true, true, true, true, true, true, true, false, false, false, false] rfl rfl (any_of HT_.out (by kernel_rfl)) (fun _ _ _ h => h) (Or.inr ⟨by rfl, rfl⟩) ?_ ?_
                        rotate_left
                        · simp only [Act.put, List.setIfInBounds_toArray, List.set_cons_zero, List.set_cons_succ, i64_w, i32_w]
                          rfl
                        refine pure_ (i := 27) (N := some 54) (v := undef) (a' := ?_) #[true, true, true, true, true, true, true, true, true, true, true, true, true, true, true, true, true, true, true, true, true, true, true, true, true, true, true, true, false, false, false] rfl rfl (any_of HT_.out (by kernel_rfl)) (fun _ _ _ h => h) (Or.inr ⟨by rfl, rfl⟩) ?_ ?_
                        rotate_left
                        · simp only [Act.put, List.setIfInBounds_toArray, List.set_cons_zero, List.set_cons_succ, i64_w, i32_w]
                          rfl
                        refine pure_ (i := 28) (N := some 55) (v := undef) (a' := ?_) #[true, true, true, true, true, true, true, true, true, true, true, true, true, true, true, true, true, true, true, true, true, true, true, true, true, true, true, true, true, false, false] rfl rfl (any_of HT_.out (by kernel_rfl)) (fun _ _ _ h => h) (Or.inr ⟨by rfl, rfl⟩) ?_ ?_
                        rotate_left
                        · simp only [Act.put, List.setIfInBounds_toArray, List.set_cons_zero, List.set_cons_succ, i64_w, i32_w]
                          rfl
                        refine pure_ (i := 29) (N := some 56) (v := undef) (a' := ?_) #[true, true, true, true, true, true, true, true, true, true, true, true, true, true, true, true, true, true, true, true, true, true, true, true, true, true, true, true, true, true, false] rfl rfl (any_of HT_.out (by kernel_rfl)) (fun _ _ _ h => h) (Or.inr ⟨by rfl, rfl⟩) ?_ ?_
                        rotate_left
                        · simp only [Act.put, List.setIfInBounds_toArray, List.set_cons_zero, List.set_cons_succ, i64_w, i32_w]
                          rfl
                        refine pure_ (i := 30) (N := some 57) (v := ?_) (a' := ?_) #[true, true, true, true, true, true, true, true, true, true, true, true, true, true, true, true, true, true, true, true, true, true, true, true, true, true, true, true, true, true, true] rfl rfl (any_of HT_.out (by kernel_rfl)) (fun _ _ _ h => h) (Or.inl ⟨by rfl, ?_⟩) ?_ ?_
                        rotate_left
                        · intro w'
                          go_simp
                          with_reducible rfl
                        rotate_left
                        · simp only [Act.put, List.setIfInBounds_toArray, List.set_cons_zero, List.set_cons_succ, i64_w, i32_w]
                          rfl
                        refine done_ (done_of HT_.out (by kernel_rfl)) ?_
                        try go_wp2
                        go_meet
                        case rel => exact ⟨_, (true), (by first | rfl | (simp; done) | (simp [*]; done)), H', ⟨by have := HJ3.out; have := HJ19.out; have := HJ21.out; have := HJ31.out; first | omega | exact Nat.le_refl _⟩, ⟨by (with_reducible repeat (first | refine blk_drewN ?_ _ | refine blk_drew ?_ | refine blk_alloc ?_ _)); exact BK348.out⟩, ⟨by (with_reducible repeat (first | refine blk_drewN ?_ _ | refine blk_drew ?_ | refine blk_alloc ?_ _)); exact BK352.out⟩, ⟨by (with_reducible repeat (first | refine blk_drewN ?_ _ | refine blk_drew ?_ | refine blk_alloc ?_ _)); exact BK358.out⟩, ⟨by repeat (first | (with_reducible first | exact HB.out | apply below_alloc | apply pw_below_drewN | apply below_drew1 | refine below_set ?_ GE348.out | refine below_set ?_ GE352.out | refine below_set ?_ GE358.out) | exact HB.out)⟩⟩
                      · rw [if_neg c47] at H
                        have c47b0 : (t360 != t361) = false := by simpa using c47
                        (try (have c47b1 : decide (t360 = t361) = true := by simpa using c47))
                        (try (have c47b2 : (t360 == t361) = true := by simpa using c47))
                        clear c47
                        replace H := Option.bind_eq_some_iff.mp H
                        obtain ⟨t362, A530, H⟩ := H
                        replace H : (if t362 = true then (if (!(t355 == a1) || (!(t356 == 1) || (t357))) = true then (coupletlaw04_FracRoots.j4 kj31 true a0_0 a0_1 a0_2 t349 t350 t351) else ((coupletlaw04_small.f a1).bind fun t363 => (if t363 = true then (coupletlaw04_FracRoots.j4 kj31 false a0_0 a0_1 a0_2 t349 t350 t351) else (coupletlaw04_FracRoots.j4 kj31 (!t357) a0_0 a0_1 a0_2 t349 t350 t351)))) else ((coupletlaw04_small.f a1).bind fun t364 => (if t364 = true then (coupletlaw04_FracRoots.j4 kj31 false a0_0 a0_1 a0_2 t349 t350 t351) else (coupletlaw04_FracRoots.j4 kj31 (!t357) a0_0 a0_1 a0_2 t349 t350 t351)))) = some r := H
                        have A53 := Aside0.mk A530
                        clear A530
                        by_cases c54 : t362 = true
                        · subst c54
                          have H1 : (if (!(t355 == a1) || (!(t356 == 1) || (t357))) = true then (coupletlaw04_FracRoots.j4 kj31 true a0_0 a0_1 a0_2 t349 t350 t351) else ((coupletlaw04_small.f a1).bind fun t363 => (if t363 = true then (coupletlaw04_FracRoots.j4 kj31 false a0_0 a0_1 a0_2 t349 t350 t351) else (coupletlaw04_FracRoots.j4 kj31 (!t357) a0_0 a0_1 a0_2 t349 t350 t351)))) = some r := by rw [if_pos rfl] at H; exact H
                          clear H
                          have H := H1
                          clear H1
                          by_cases c55 : (!(t355 == a1) || (!(t356 == 1) || (t357))) = true
                          · rw [if_pos c55] at H
                            have c55b0 : (!(t355 == a1) || (!(t356 == 1) || (t357))) = true := c55
                            clear c55
                            have H' := Aside0.mk H
                            clear H
                            try go_wp2
                            have n0_ : Aside0 ((((w39.setCell ⟨gb358, 0, none⟩ (.int .i64 t355)).setCell ⟨gb358, 1, none⟩ (.int .i64 t356)).setCell ⟨gb358, 2, none⟩ (.bool t357)).heap[gb348]? = some (.cells #[.int .i64 a0_0, .int .i64 a0_1, .bool a0_2] 23 (0, 0))) := ⟨by (with_reducible repeat (first | refine blk_drewN ?_ _ | refine blk_drew ?_ | refine blk_alloc ?_ _)); refine blk_far ?_ NB348_358.out _; (with_reducible repeat (first | refine blk_drewN ?_ _ | refine blk_drew ?_ | refine blk_alloc ?_ _)); refine blk_far ?_ NB348_358.out _; (with_reducible repeat (first | refine blk_drewN ?_ _ | refine blk_drew ?_ | refine blk_alloc ?_ _)); refine blk_far ?_ NB348_358.out _; (with_reducible repeat (first | refine blk_drewN ?_ _ | refine blk_drew ?_ | refine blk_alloc ?_ _)); exact BK348.out⟩
                            have n1_ : Aside0 ((((w39.setCell ⟨gb358, 0, none⟩ (.int .i64 t355)).setCell ⟨gb358, 1, none⟩ (.int .i64 t356)).setCell ⟨gb358, 2, none⟩ (.bool t357)).heap[gb352]? = some (.cells #[.int .i64 t349, .int .i64 t350, .bool t351] 23 (0, 0))) := ⟨by (with_reducible repeat (first | refine blk_drewN ?_ _ | refine blk_drew ?_ | refine blk_alloc ?_ _)); refine blk_far ?_ NB352_358.out _; (with_reducible repeat (first | refine blk_drewN ?_ _ | refine blk_drew ?_ | refine blk_alloc ?_ _)); refine blk_far ?_ NB352_358.out _; (with_reducible repeat (first | refine blk_drewN ?_ _ | refine blk_drew ?_ | refine blk_alloc ?_ _)); refine blk_far ?_ NB352_358.out _; (with_reducible repeat (first | refine blk_drewN ?_ _ | refine blk_drew ?_ | refine blk_alloc ?_ _)); exact BK352.out⟩
                            have n2_ : Aside0 ((((w39.setCell ⟨gb358, 0, none⟩ (.int .i64 t355)).setCell ⟨gb358, 1, none⟩ (.int .i64 t356)).setCell ⟨gb358, 2, none⟩ (.bool t357)).heap[gb358]? = some (.cells #[.int .i64 t355, .int .i64 t356, .bool t357] 23 (0, 0))) := ⟨by (with_reducible repeat (first | refine blk_drewN ?_ _ | refine blk_drew ?_ | refine blk_alloc ?_ _)); refine blk_put (cs := #[.int .i64 t355, .int .i64 t356, .bool false]) ?_ 2 _ rfl; (with_reducible repeat (first | refine blk_drewN ?_ _ | refine blk_drew ?_ | refine blk_alloc ?_ _)); refine blk_put (cs := #[.int .i64 t355, .int .i64 0, .bool false]) ?_ 1 _ rfl; (with_reducible repeat (first | refine blk_drewN ?_ _ | refine blk_drew ?_ | refine blk_alloc ?_ _)); refine blk_put (cs := #[.int .i64 0, .int .i64 0, .bool false]) ?_ 0 _ rfl; (with_reducible repeat (first | refine blk_drewN ?_ _ | refine blk_drew ?_ | refine blk_alloc ?_ _)); exact BK358.out⟩
                            have n3_ : Aside0 (Below w.heap.size w (((w39.setCell ⟨gb358, 0, none⟩ (.int .i64 t355)).setCell ⟨gb358, 1, none⟩ (.int .i64 t356)).setCell ⟨gb358, 2, none⟩ (.bool t357))) := ⟨by repeat (first | (with_reducible first | exact HB.out | apply below_alloc | apply pw_below_drewN | apply below_drew1 | refine below_set ?_ GE348.out | refine below_set ?_ GE352.out | refine below_set ?_ GE358.out) | exact HB.out)⟩
                            (try clear BK348)
                            (try clear BK352)
                            (try clear BK358)
                            (try clear HB)
                            generalize (((w39.setCell ⟨gb358, 0, none⟩ (.int .i64 t355)).setCell ⟨gb358, 1, none⟩ (.int .i64 t356)).setCell ⟨gb358, 2, none⟩ (.bool t357)) = w56 at n0_ n1_ n2_ n3_ ⊢
                            have BK348 := n0_
                            have BK352 := n1_
                            have BK358 := n2_
                            have HB := n3_
                            clear n0_ n1_ n2_ n3_
                            have n0_ := Aside0.mk (blk_drew BK348.out)
                            have n1_ := Aside0.mk (blk_drew BK352.out)
                            have n2_ := Aside0.mk (blk_drew BK358.out)
                            have n3_ := Aside0.mk (below_drew1 HB.out)
                            clear BK348
                            clear BK352
                            clear BK358
                            clear HB
                            have BK348 := n0_
                            have BK352 := n1_
                            have BK358 := n2_
                            have HB := n3_
                            clear n0_ n1_ n2_ n3_
                            refine start_ (n := 31) (S := fun w' => w'.cell? ⟨gb348, 0, none⟩ = some (.int .i64 a0_0) ∧ w'.cell? ⟨gb348, 1, none⟩ = some (.int .i64 a0_1) ∧ w'.cell? ⟨gb348, 2, none⟩ = some (.bool a0_2) ∧ w'.cell? ⟨gb358, 0, none⟩ = some (.int .i64 t355) ∧ w'.cell? ⟨gb358, 1, none⟩ = some (.int .i64 t356) ∧ w'.cell? ⟨gb358, 2, none⟩ = some (.bool t357)) (ds := []) #[false, false, false, false, false, false, false, false, false, false, false, false, false, false, false, false, false, false, false, false, false, false, false, false, false, false, false, false, false, false, false] (by kernel_rfl) rfl rfl ⟨(blk_cell BK348.out 0).trans rfl, (blk_cell BK348.out 1).trans rfl, (blk_cell BK348.out 2).trans rfl, (blk_cell BK358.out 0).trans rfl, (blk_cell BK358.out 1).trans rfl, (blk_cell BK358.out 2).trans rfl⟩ (fun hHeld => ?_); refine with_tabW coupletlaw04_FracRoots.tab8 coupletlaw04_FracRoots.bits8 (fun HT_ HW_ => ?_)
                            generalize w56.drew = w57 at BK348 BK352 BK358 HB hHeld ⊢
                            refine pure_ (i := 2) (N := some 29) (v := ?_) (a' := ?_) #[false, false, true, false, false, false, false, false, false, false, false, false, false, false, false, false, false, false, false, false, false, false, false, false, false, false, false, false, false, false, false] rfl rfl (any_of HT_.out (by kernel_rfl)) (fun _ _ _ h => h) (Or.inl ⟨by rfl, ?_⟩) ?_ ?_
                            rotate_left
                            · intro w'
                              go_simp
                              with_reducible rfl
                            rotate_left
                            · simp only [Act.put, List.setIfInBounds_toArray, List.set_cons_zero, List.set_cons_succ, i64_w, i32_w]
                              rfl
                            refine take_ (i := 0) (N := some 27) (v := ?_) (a' := ?_) #[true, false, true, false, false, false, false, false, false, false, false, false, false, false, false, false, false, false, false, false, false, false, false, false, false, false, false, false, false, false, false] rfl rfl (take_ofW HT_.out HW_.out (by kernel_rfl)) (fun _ _ _ h => h) (Or.inl ⟨by rfl, ?_⟩) hHeld ?_ ?_
                            rotate_left
                            · rintro w' ⟨s0, s1, s2, s3, s4, s5⟩
                              go_simp
                              with_reducible rfl
                            rotate_left
                            · simp only [Act.put, List.setIfInBounds_toArray, List.set_cons_zero, List.set_cons_succ, i64_w, i32_w]
                              rfl
                            refine one_ (i := 1) (N := some 28) #[true, true, true, false, false, false, false, false, false, false, false, false, false, false, false, false, false, false, false, false, false, false, false, false, false, false, false, false, false, false, false] rfl rfl (one_of HT_.out (by kernel_rfl)) (by decide) (fun K hK => ?_)
                            refine goes_ Try.func21 (by kernel_rfl) rfl #[.agg #[.int .i64 a0_0, .int .i64 a0_1, .bool a0_2]] (by rfl) rfl rfl (by (try simp only [List.map_toArray, List.map_cons, List.map_nil]); first | done | rfl | (simp only [List.length_drop, List.length_take]; rfl)) ?_
                            with_reducible refine (frac_Frac_Sign.calls kj31 a0_0 a0_1 a0_2 t359 _ A43.out).mono ?_
                            rintro e w58 ⟨rfl, hb⟩
                            refine ⟨_, rfl, ?_⟩
                            have n0_ := Aside0.mk (blk_below (g := gb348) (o := .cells #[.int .i64 a0_0, .int .i64 a0_1, .bool a0_2] 23 (0, 0)) (by (with_reducible repeat (first | refine blk_drewN ?_ _ | refine blk_drew ?_ | refine blk_alloc ?_ _)); exact BK348.out) hb)
                            have n1_ := Aside0.mk (blk_below (g := gb352) (o := .cells #[.int .i64 t349, .int .i64 t350, .bool t351] 23 (0, 0)) (by (with_reducible repeat (first | refine blk_drewN ?_ _ | refine blk_drew ?_ | refine blk_alloc ?_ _)); exact BK352.out) hb)
                            have n2_ := Aside0.mk (blk_below (g := gb358) (o := .cells #[.int .i64 t355, .int .i64 t356, .bool t357] 23 (0, 0)) (by (with_reducible repeat (first | refine blk_drewN ?_ _ | refine blk_drew ?_ | refine blk_alloc ?_ _)); exact BK358.out) hb)
                            have n3_ := Aside0.mk (below_step (by repeat (first | (with_reducible first | exact HB.out | apply below_alloc | apply pw_below_drewN | apply below_drew1 | refine below_set ?_ GE348.out | refine below_set ?_ GE352.out | refine below_set ?_ GE358.out) | exact HB.out)) hb)
                            clear BK348
                            clear BK352
                            clear BK358
                            clear HB
                            have BK348 := n0_
                            have BK352 := n1_
                            have BK358 := n2_
                            have HB := n3_
                            clear n0_ n1_ n2_ n3_
                            (try clear hb)
                            (try clear hb2)
                            (try clear hk)
                            (try clear hi)
                            refine hK.out _ _ ⟨(blk_cell BK348.out 0).trans rfl, (blk_cell BK348.out 1).trans rfl, (blk_cell BK348.out 2).trans rfl, (blk_cell BK358.out 0).trans rfl, (blk_cell BK358.out 1).trans rfl, (blk_cell BK358.out 2).trans rfl⟩ (fun hHeld => ?_)
                            clear hK K
                            refine norm_ (a' := ?_) ?_ ?_
                            rotate_left
                            · show Act.put _ (some 28) _ = _
                              simp only [Act.put, List.setIfInBounds_toArray, List.set_cons_zero, List.set_cons_succ, i64_w, i32_w]
                              rfl
                            refine pure_ (i := 3) (N := some 30) (v := ?_) (a' := ?_) #[true, true, true, true, false, false, false, false, false, false, false, false, false, false, false, false, false, false, false, false, false, false, false, false, false, false, false, false, false, false, false] rfl rfl (any_of HT_.out (by kernel_rfl)) (fun _ _ _ h => h) (Or.inl ⟨by rfl, ?_⟩) ?_ ?_
                            rotate_left
                            · intro w'
                              go_simp
                              with_reducible rfl
                            rotate_left
                            · simp only [Act.put, List.setIfInBounds_toArray, List.set_cons_zero, List.set_cons_succ, i64_w, i32_w]
                              rfl
                            refine pure_ (i := 4) (N := some 31) (v := ?_) (a' := ?_) #[true, true, true, true, true, false, false, false, false, false, false, false, false, false, false, false, false, false, false, false, false, false, false, false, false, false, false, false, false, false, false] rfl rfl (any_of HT_.out (by kernel_rfl)) (fun _ _ _ h => h) (Or.inl ⟨by rfl, ?_⟩) ?_ ?_
                            rotate_left
                            · intro w'
                              go_simp
                              with_reducible rfl
                            rotate_left
                            · simp only [Act.put, List.setIfInBounds_toArray, List.set_cons_zero, List.set_cons_succ, i64_w, i32_w]
                              rfl
                            refine take_ (i := 5) (N := some 32) (v := ?_) (a' := ?_) #[true, true, true, true, true, true, false, false, false, false, false, false, false, false, false, false, false, false, false, false, false, false, false, false, false, false, false, false, false, false, false] rfl rfl (take_ofW HT_.out HW_.out (by kernel_rfl)) (fun _ _ _ h => h) (Or.inl ⟨by rfl, ?_⟩) hHeld ?_ ?_
                            rotate_left
                            · rintro w' ⟨s0, s1, s2, s3, s4, s5⟩
                              go_simp
                              with_reducible rfl
                            rotate_left
                            · simp only [Act.put, List.setIfInBounds_toArray, List.set_cons_zero, List.set_cons_succ, i64_w, i32_w]
                              rfl
                            refine take_ (i := 7) (N := some 34) (v := ?_) (a' := ?_) #[true, true, true, true, true, true, false, true, false, false, false, false, false, false, false, false, false, false, false, false, false, false, false, false, false, false, false, false, false, false, false] rfl rfl (take_ofW HT_.out HW_.out (by kernel_rfl)) (fun _ _ _ h => h) (Or.inl ⟨by rfl, ?_⟩) hHeld ?_ ?_
                            rotate_left
                            · rintro w' ⟨s0, s1, s2, s3, s4, s5⟩
                              go_simp
                              with_reducible rfl
                            rotate_left
                            · simp only [Act.put, List.setIfInBounds_toArray, List.set_cons_zero, List.set_cons_succ, i64_w, i32_w]
                              rfl
                            refine one_ (i := 6) (N := some 33) #[true, true, true, true, true, true, true, true, false, false, false, false, false, false, false, false, false, false, false, false, false, false, false, false, false, false, false, false, false, false, false] rfl rfl (one_of HT_.out (by kernel_rfl)) (by decide) (fun K hK => ?_)
                            refine goes_ Try.func14 (by kernel_rfl) rfl #[.agg #[.int .i64 a0_0, .int .i64 a0_1, .bool a0_2]] (by rfl) rfl rfl (by (try simp only [List.map_toArray, List.map_cons, List.map_nil]); first | done | rfl | (simp only [List.length_drop, List.length_take]; rfl)) ?_
                            with_reducible refine (frac_Frac_Fine.calls kj31 a0_0 a0_1 a0_2 t360 _ A45.out).mono ?_
                            rintro e w59 ⟨rfl, hb⟩
                            refine ⟨_, rfl, ?_⟩
                            have n0_ := Aside0.mk (blk_below (g := gb348) (o := .cells #[.int .i64 a0_0, .int .i64 a0_1, .bool a0_2] 23 (0, 0)) (by (with_reducible repeat (first | refine blk_drewN ?_ _ | refine blk_drew ?_ | refine blk_alloc ?_ _)); exact BK348.out) hb)
                            have n1_ := Aside0.mk (blk_below (g := gb352) (o := .cells #[.int .i64 t349, .int .i64 t350, .bool t351] 23 (0, 0)) (by (with_reducible repeat (first | refine blk_drewN ?_ _ | refine blk_drew ?_ | refine blk_alloc ?_ _)); exact BK352.out) hb)
                            have n2_ := Aside0.mk (blk_below (g := gb358) (o := .cells #[.int .i64 t355, .int .i64 t356, .bool t357] 23 (0, 0)) (by (with_reducible repeat (first | refine blk_drewN ?_ _ | refine blk_drew ?_ | refine blk_alloc ?_ _)); exact BK358.out) hb)
                            have n3_ := Aside0.mk (below_step (by repeat (first | (with_reducible first | exact HB.out | apply below_alloc | apply pw_below_drewN | apply below_drew1 | refine below_set ?_ GE348.out | refine below_set ?_ GE352.out | refine below_set ?_ GE358.out) | exact HB.out)) hb)
                            clear BK348
                            clear BK352
                            clear BK358
                            clear HB
                            have BK348 := n0_
                            have BK352 := n1_
                            have BK358 := n2_
                            have HB := n3_
                            clear n0_ n1_ n2_ n3_
                            (try clear hb)
                            (try clear hb2)
                            (try clear hk)
                            (try clear hi)
                            refine hK.out _ _ ⟨(blk_cell BK348.out 0).trans rfl, (blk_cell BK348.out 1).trans rfl, (blk_cell BK348.out 2).trans rfl, (blk_cell BK358.out 0).trans rfl, (blk_cell BK358.out 1).trans rfl, (blk_cell BK358.out 2).trans rfl⟩ (fun hHeld => ?_)
                            clear hK K
                            refine norm_ (a' := ?_) ?_ ?_
                            rotate_left
                            · show Act.put _ (some 33) _ = _
                              simp only [Act.put, List.setIfInBounds_toArray, List.set_cons_zero, List.set_cons_succ, i64_w, i32_w]
                              rfl
                            refine one_ (i := 8) (N := some 35) #[true, true, true, true, true, true, true, true, true, false, false, false, false, false, false, false, false, false, false, false, false, false, false, false, false, false, false, false, false, false, false] rfl rfl (one_of HT_.out (by kernel_rfl)) (by decide) (fun K hK => ?_)
                            refine goes_ Try.func13 (by kernel_rfl) rfl #[.agg #[.int .i64 a0_0, .int .i64 a0_1, .bool a0_2]] (by rfl) rfl rfl (by (try simp only [List.map_toArray, List.map_cons, List.map_nil]); first | done | rfl | (simp only [List.length_drop, List.length_take]; rfl)) ?_
                            with_reducible refine (coupletlaw04_fine.calls kj31 a0_0 a0_1 a0_2 t361 _ A46.out).mono ?_
                            rintro e w60 ⟨rfl, hb⟩
                            refine ⟨_, rfl, ?_⟩
                            have n0_ := Aside0.mk (blk_below (g := gb348) (o := .cells #[.int .i64 a0_0, .int .i64 a0_1, .bool a0_2] 23 (0, 0)) (by (with_reducible repeat (first | refine blk_drewN ?_ _ | refine blk_drew ?_ | refine blk_alloc ?_ _)); exact BK348.out) hb)
                            have n1_ := Aside0.mk (blk_below (g := gb352) (o := .cells #[.int .i64 t349, .int .i64 t350, .bool t351] 23 (0, 0)) (by (with_reducible repeat (first | refine blk_drewN ?_ _ | refine blk_drew ?_ | refine blk_alloc ?_ _)); exact BK352.out) hb)
                            have n2_ := Aside0.mk (blk_below (g := gb358) (o := .cells #[.int .i64 t355, .int .i64 t356, .bool t357] 23 (0, 0)) (by (with_reducible repeat (first | refine blk_drewN ?_ _ | refine blk_drew ?_ | refine blk_alloc ?_ _)); exact BK358.out) hb)
                            have n3_ := Aside0.mk (below_step (by repeat (first | (with_reducible first | exact HB.out | apply below_alloc | apply pw_below_drewN | apply below_drew1 | refine below_set ?_ GE348.out | refine below_set ?_ GE352.out | refine below_set ?_ GE358.out) | exact HB.out)) hb)
                            clear BK348
                            clear BK352
                            clear BK358
                            clear HB
                            have BK348 := n0_
                            have BK352 := n1_
                            have BK358 := n2_
                            have HB := n3_
                            clear n0_ n1_ n2_ n3_
                            (try clear hb)
                            (try clear hb2)
                            (try clear hk)
                            (try clear hi)
                            refine hK.out _ _ ⟨(blk_cell BK348.out 0).trans rfl, (blk_cell BK348.out 1).trans rfl, (blk_cell BK348.out 2).trans rfl, (blk_cell BK358.out 0).trans rfl, (blk_cell BK358.out 1).trans rfl, (blk_cell BK358.out 2).trans rfl⟩ (fun hHeld => ?_)
                            clear hK K
                            refine norm_ (a' := ?_) ?_ ?_
                            rotate_left
                            · show Act.put _ (some 35) _ = _
                              simp only [Act.put, List.setIfInBounds_toArray, List.set_cons_zero, List.set_cons_succ, i64_w, i32_w]
                              rfl
                            refine pure_ (i := 9) (N := some 36) (v := ?_) (a' := ?_) #[true, true, true, true, true, true, true, true, true, true, false, false, false, false, false, false, false, false, false, false, false, false, false, false, false, false, false, false, false, false, false] rfl rfl (any_of HT_.out (by kernel_rfl)) (fun _ _ _ h => h) (Or.inl ⟨by rfl, ?_⟩) ?_ ?_
                            rotate_left
                            · intro w'
                              go_simp
                              with_reducible rfl
                            rotate_left
                            · simp only [Act.put, List.setIfInBounds_toArray, List.set_cons_zero, List.set_cons_succ, i64_w, i32_w]
                              rfl
                            refine pure_ (i := 10) (N := some 37) (v := ?_) (a' := ?_) #[true, true, true, true, true, true, true, true, true, true, true, false, false, false, false, false, false, false, false, false, false, false, false, false, false, false, false, false, false, false, false] rfl rfl (any_of HT_.out (by kernel_rfl)) (fun _ _ _ h => h) (Or.inl ⟨by rfl, ?_⟩) ?_ ?_
                            rotate_left
                            · intro w'
                              go_simp
                              with_reducible rfl
                            rotate_left
                            · simp only [Act.put, List.setIfInBounds_toArray, List.set_cons_zero, List.set_cons_succ, i64_w, i32_w]
                              rfl
                            refine pure_ (i := 11) (N := some 38) (v := ?_) (a' := ?_) #[true, true, true, true, true, true, true, true, true, true, true, true, false, false, false, false, false, false, false, false, false, false, false, false, false, false, false, false, false, false, false] rfl rfl (any_of HT_.out (by kernel_rfl)) (fun _ _ _ h => h) (Or.inl ⟨by rfl, ?_⟩) ?_ ?_
                            rotate_left
                            · intro w'
                              go_simp
                              with_reducible rfl
                            rotate_left
                            · simp only [Act.put, List.setIfInBounds_toArray, List.set_cons_zero, List.set_cons_succ, i64_w, i32_w]
                              rfl
                            refine pure_ (i := 12) (N := some 39) (v := ?_) (a' := ?_) #[true, true, true, true, true, true, true, true, true, true, true, true, true, false, false, false, false, false, false, false, false, false, false, false, false, false, false, false, false, false, false] rfl rfl (any_of HT_.out (by kernel_rfl)) (fun _ _ _ h => h) (Or.inl ⟨by rfl, ?_⟩) ?_ ?_
                            rotate_left
                            · intro w'
                              go_simp
                              with_reducible rfl
                            rotate_left
                            · simp only [Act.put, List.setIfInBounds_toArray, List.set_cons_zero, List.set_cons_succ, i64_w, i32_w]
                              rfl
                            refine one_ (i := 13) (N := some 40) #[true, true, true, true, true, true, true, true, true, true, true, true, true, true, false, false, false, false, false, false, false, false, false, false, false, false, false, false, false, false, false] rfl rfl (one_of HT_.out (by kernel_rfl)) (by decide) (fun K hK => ?_)
                            refine goes_ Try.func16 (by kernel_rfl) rfl #[.int .i64 a1] (by rfl) rfl rfl (by (try simp only [List.map_toArray, List.map_cons, List.map_nil]); first | done | rfl | (simp only [List.length_drop, List.length_take]; rfl)) ?_
                            with_reducible refine (coupletlaw04_small.calls a1 true _ A53.out).mono ?_
                            rintro e w' ⟨rfl, ⟨nd, rfl⟩⟩
                            refine ⟨_, rfl, ?_⟩
                            refine hK.out _ _ ⟨(blk_cell BK348.out 0).trans rfl, (blk_cell BK348.out 1).trans rfl, (blk_cell BK348.out 2).trans rfl, (blk_cell BK358.out 0).trans rfl, (blk_cell BK358.out 1).trans rfl, (blk_cell BK358.out 2).trans rfl⟩ (fun hHeld => ?_)
                            clear hK K
                            refine norm_ (a' := ?_) ?_ ?_
                            rotate_left
                            · show Act.put _ (some 40) _ = _
                              simp only [Act.put, List.setIfInBounds_toArray, List.set_cons_zero, List.set_cons_succ, i64_w, i32_w]
                              rfl
                            refine pure_ (i := 14) (N := some 41) (v := ?_) (a' := ?_) #[true, true, true, true, true, true, true, true, true, true, true, true, true, true, true, false, false, false, false, false, false, false, false, false, false, false, false, false, false, false, false] rfl rfl (any_of HT_.out (by kernel_rfl)) (fun _ _ _ h => h) (Or.inl ⟨by rfl, ?_⟩) ?_ ?_
                            rotate_left
                            · intro w'
                              go_simp
                              with_reducible rfl
                            rotate_left
                            · simp only [Act.put, List.setIfInBounds_toArray, List.set_cons_zero, List.set_cons_succ, i64_w, i32_w]
                              rfl
                            refine pure_ (i := 16) (N := some 43) (v := ?_) (a' := ?_) #[true, true, true, true, true, true, true, true, true, true, true, true, true, true, true, false, true, false, false, false, false, false, false, false, false, false, false, false, false, false, false] rfl rfl (any_of HT_.out (by kernel_rfl)) (fun _ _ _ h => h) (Or.inl ⟨by rfl, ?_⟩) ?_ ?_
                            rotate_left
                            · intro w'
                              go_simp
                              with_reducible rfl
                            rotate_left
                            · simp only [Act.put, List.setIfInBounds_toArray, List.set_cons_zero, List.set_cons_succ, i64_w, i32_w]
                              rfl
                            refine pure_ (i := 17) (N := some 44) (v := ?_) (a' := ?_) #[true, true, true, true, true, true, true, true, true, true, true, true, true, true, true, false, true, true, false, false, false, false, false, false, false, false, false, false, false, false, false] rfl rfl (any_of HT_.out (by kernel_rfl)) (fun _ _ _ h => h) (Or.inl ⟨by rfl, ?_⟩) ?_ ?_
                            rotate_left
                            · intro w'
                              go_simp
                              with_reducible rfl
                            rotate_left
                            · simp only [Act.put, List.setIfInBounds_toArray, List.set_cons_zero, List.set_cons_succ, i64_w, i32_w]
                              rfl
                            refine take_ (i := 15) (N := some 42) (v := ?_) (a' := ?_) #[true, true, true, true, true, true, true, true, true, true, true, true, true, true, true, true, true, true, false, false, false, false, false, false, false, false, false, false, false, false, false] rfl rfl (take_ofW HT_.out HW_.out (by kernel_rfl)) (fun _ _ _ h => h) (Or.inl ⟨by rfl, ?_⟩) hHeld ?_ ?_
                            rotate_left
                            · rintro w' ⟨s0, s1, s2, s3, s4, s5⟩
                              go_simp
                              with_reducible rfl
                            rotate_left
                            · simp only [Act.put, List.setIfInBounds_toArray, List.set_cons_zero, List.set_cons_succ, i64_w, i32_w]
                              rfl
                            refine pure_ (i := 18) (N := some 45) (v := ?_) (a' := ?_) #[true, true, true, true, true, true, true, true, true, true, true, true, true, true, true, true, true, true, true, false, false, false, false, false, false, false, false, false, false, false, false] rfl rfl (any_of HT_.out (by kernel_rfl)) (fun _ _ _ h => h) (Or.inl ⟨by rfl, ?_⟩) ?_ ?_
                            rotate_left
                            · intro w'
                              go_simp
                              with_reducible rfl
                            rotate_left
                            · simp only [Act.put, List.setIfInBounds_toArray, List.set_cons_zero, List.set_cons_succ, i64_w, i32_w]
                              rfl
                            refine pure_ (i := 19) (N := some 46) (v := ?_) (a' := ?_) #[true, true, true, true, true, true, true, true, true, true, true, true, true, true, true, true, true, true, true, true, false, false, false, false, false, false, false, false, false, false, false] rfl rfl (any_of HT_.out (by kernel_rfl)) (fun _ _ _ h => h) (Or.inl ⟨by rfl, ?_⟩) ?_ ?_
                            rotate_left
                            · intro w'
                              go_simp
                              with_reducible rfl
                            rotate_left
                            · simp only [Act.put, List.setIfInBounds_toArray, List.set_cons_zero, List.set_cons_succ, i64_w, i32_w]
                              rfl
                            refine pure_ (i := 20) (N := some 47) (v := ?_) (a' := ?_) #[true, true, true, true, true, true, true, true, true, true, true, true, true, true, true, true, true, true, true, true, true, false, false, false, false, false, false, false, false, false, false] rfl rfl (any_of HT_.out (by kernel_rfl)) (fun _ _ _ h => h) (Or.inl ⟨by rfl, ?_⟩) ?_ ?_
                            rotate_left
                            · intro w'
                              go_simp
                              with_reducible rfl
                            rotate_left
                            · simp only [Act.put, List.setIfInBounds_toArray, List.set_cons_zero, List.set_cons_succ, i64_w, i32_w]
                              rfl
                            refine pure_ (i := 21) (N := some 48) (v := ?_) (a' := ?_) #[true, true, true, true, true, true, true, true, true, true, true, true, true, true, true, true, true, true, true, true, true, true, false, false, false, false, false, false, false, false, false] rfl rfl (any_of HT_.out (by kernel_rfl)) (fun _ _ _ h => h) (Or.inl ⟨by rfl, ?_⟩) ?_ ?_
                            rotate_left
                            · intro w'
                              go_simp
                              with_reducible rfl
                            rotate_left
                            · simp only [Act.put, List.setIfInBounds_toArray, List.set_cons_zero, List.set_cons_succ, i64_w, i32_w]
                              rfl
                            refine pure_ (i := 22) (N := some 49) (v := undef) (a' := ?_) #[true, true, true, true, true, true, true, true, true, true, true, true, true, true, true, true, true, true, true, true, true, true, true, false, false, false, false, false, false, false, false] rfl rfl (any_of HT_.out (by kernel_rfl)) (fun _ _ _ h => h) (Or.inr ⟨by rfl, rfl⟩) ?_ ?_
                            rotate_left
                            · simp only [Act.put, List.setIfInBounds_toArray, List.set_cons_zero, List.set_cons_succ, i64_w, i32_w]
                              rfl
                            refine pure_ (i := 23) (N := some 50) (v := undef) (a' := ?_) #[true, true, true, true, true, true, true, true, true, true, true, true, true, true, true, true, true, true, true, true, true, true, true, true, false, false, false, false, false, false, false] rfl rfl (any_of HT_.out (by kernel_rfl)) (fun _ _ _ h => h) (Or.inr ⟨by rfl, rfl⟩) ?_ ?_
                            rotate_left
                            · simp only [Act.put, List.setIfInBounds_toArray, List.set_cons_zero, List.set_cons_succ, i64_w, i32_w]
                              rfl
                            refine pure_ (i := 24) (N := some 51) (v := undef) (a' := ?_) #[true, true, true, true, true, true, true, true, true, true, true, true, true, true, true, true, true, true, true, true, true, true, true, true, true, false, false, false, false, false, false] rfl rfl (any_of HT_.out (by kernel_rfl)) (fun _ _ _ h => h) (Or.inr ⟨by rfl, rfl⟩) ?_ ?_
                            rotate_left
                            · simp only [Act.put, List.setIfInBounds_toArray, List.set_cons_zero, List.set_cons_succ, i64_w, i32_w]
                              rfl
                            refine pure_ (i := 25) (N := some 52) (v := undef) (a' := ?_) #[true, true, true, true, true, true, true, true, true, true, true, true, true, true, true, true, true, true, true, true, true, true, true, true, true, true, false, false, false, false, false] rfl rfl (any_of HT_.out (by kernel_rfl)) (fun _ _ _ h => h) (Or.inr ⟨by rfl, rfl⟩) ?_ ?_
                            rotate_left
                            · simp only [Act.put, List.setIfInBounds_toArray, List.set_cons_zero, List.set_cons_succ, i64_w, i32_w]
                              rfl
                            refine pure_ (i := 26) (N := some 53) (v := undef) (a' := ?_) #[true, true, true, true, true, true, true, true, true, true, true, true, true, true, true, true, true, true, true, true, true, true, true, true, true, true, true, false, false, false, false] rfl rfl (any_of HT_.out (by kernel_rfl)) (fun _ _ _ h => h) (Or.inr ⟨by rfl, rfl⟩) ?_ ?_
                            rotate_left
                            · simp only [Act.put, List.setIfInBounds_toArray, List.set_cons_zero, List.set_cons_succ, i64_w, i32_w]
                              rfl
                            refine pure_ (i := 27) (N := some 54) (v := undef) (a' := ?_) #[true, true, true, true, true, true, true, true, true, true, true, true, true, true, true, true, true, true, true, true, true, true, true, true, true, true, true, true, false, false, false] rfl rfl (any_of HT_.out (by kernel_rfl)) (fun _ _ _ h => h) (Or.inr ⟨by rfl, rfl⟩) ?_ ?_
                            rotate_left
                            · simp only [Act.put, List.setIfInBounds_toArray, List.set_cons_zero, List.set_cons_succ, i64_w, i32_w]
                              rfl
                            refine pure_ (i := 28) (N := some 55) (v := undef) (a' := ?_) #[true, true, true, true, true, true, true, true, true, true, true, true, true, true, true, true, true, true, true, true, true, true, true, true, true, true, true, true, true, false, false] rfl rfl (any_of HT_.out (by kernel_rfl)) (fun _ _ _ h => h) (Or.inr ⟨by rfl, rfl⟩) ?_ ?_
                            rotate_left
                            · simp only [Act.put, List.setIfInBounds_toArray, List.set_cons_zero, List.set_cons_succ, i64_w, i32_w]
                              rfl
                            refine pure_ (i := 29) (N := some 56) (v := undef) (a' := ?_) #[true, true, true, true, true, true, true, true, true, true, true, true, true, true, true, true, true, true, true, true, true, true, true, true, true, true, true, true, true, true, false] rfl rfl (any_of HT_.out (by kernel_rfl)) (fun _ _ _ h => h) (Or.inr ⟨by rfl, rfl⟩) ?_ ?_
                            rotate_left
                            · simp only [Act.put, List.setIfInBounds_toArray, List.set_cons_zero, List.set_cons_succ, i64_w, i32_w]
                              rfl
                            refine pure_ (i := 30) (N := some 57) (v := ?_) (a' := ?_) #[true, true, true, true, true, true, true, true, true, true, true, true, true, true, true, true, true, true, true, true, true, true, true, true, true, true, true, true, true, true, true] rfl rfl (any_of HT_.out (by kernel_rfl)) (fun _ _ _ h => h) (Or.inl ⟨by rfl, ?_⟩) ?_ ?_
                            rotate_left
                            · intro w'
                              go_simp
                              with_reducible rfl
                            rotate_left
                            · simp only [Act.put, List.setIfInBounds_toArray, List.set_cons_zero, List.set_cons_succ, i64_w, i32_w]
                              rfl
                            refine done_ (done_of HT_.out (by kernel_rfl)) ?_
                            try go_wp2
                            go_meet
                            case rel => exact ⟨_, (true), (by first | rfl | (simp; done) | (simp [*]; done)), H', ⟨by have := HJ3.out; have := HJ19.out; have := HJ21.out; have := HJ31.out; first | omega | exact Nat.le_refl _⟩, ⟨by (with_reducible repeat (first | refine blk_drewN ?_ _ | refine blk_drew ?_ | refine blk_alloc ?_ _)); exact BK348.out⟩, ⟨by (with_reducible repeat (first | refine blk_drewN ?_ _ | refine blk_drew ?_ | refine blk_alloc ?_ _)); exact BK352.out⟩, ⟨by (with_reducible repeat (first | refine blk_drewN ?_ _ | refine blk_drew ?_ | refine blk_alloc ?_ _)); exact BK358.out⟩, ⟨by repeat (first | (with_reducible first | exact HB.out | apply below_alloc | apply pw_below_drewN | apply below_drew1 | refine below_set ?_ GE348.out | refine below_set ?_ GE352.out | refine below_set ?_ GE358.out) | exact HB.out)⟩⟩
                          · rw [if_neg c55] at H
                            have c55b0 : (!(t355 == a1) || (!(t356 == 1) || (t357))) = false := by simpa using c55
                            clear c55
                            replace H := Option.bind_eq_some_iff.mp H
                            obtain ⟨t363, A610, H⟩ := H
                            replace H : (if t363 = true then (coupletlaw04_FracRoots.j4 kj31 false a0_0 a0_1 a0_2 t349 t350 t351) else (coupletlaw04_FracRoots.j4 kj31 (!t357) a0_0 a0_1 a0_2 t349 t350 t351)) = some r := H
                            have A61 := Aside0.mk A610
                            clear A610
                            have e_ := Option.some.inj (A53.out.symm.trans A61.out)
                            obtain rfl := e_
                            by_cases c62 : true = true
                            · clear c62
                              have H1 : (coupletlaw04_FracRoots.j4 kj31 false a0_0 a0_1 a0_2 t349 t350 t351) = some r := by rw [if_pos rfl] at H; exact H
                              clear H
                              have H := H1
                              clear H1
                              have H' := Aside0.mk H
                              clear H
                              try go_wp2
                              have n0_ : Aside0 ((((w39.setCell ⟨gb358, 0, none⟩ (.int .i64 t355)).setCell ⟨gb358, 1, none⟩ (.int .i64 t356)).setCell ⟨gb358, 2, none⟩ (.bool t357)).heap[gb348]? = some (.cells #[.int .i64 a0_0, .int .i64 a0_1, .bool a0_2] 23 (0, 0))) := ⟨by (with_reducible repeat (first | refine blk_drewN ?_ _ | refine blk_drew ?_ | refine blk_alloc ?_ _)); refine blk_far ?_ NB348_358.out _; (with_reducible repeat (first | refine blk_drewN ?_ _ | refine blk_drew ?_ | refine blk_alloc ?_ _)); refine blk_far ?_ NB348_358.out _; (with_reducible repeat (first | refine blk_drewN ?_ _ | refine blk_drew ?_ | refine blk_alloc ?_ _)); refine blk_far ?_ NB348_358.out _; (with_reducible repeat (first | refine blk_drewN ?_ _ | refine blk_drew ?_ | refine blk_alloc ?_ _)); exact BK348.out⟩
                              have n1_ : Aside0 ((((w39.setCell ⟨gb358, 0, none⟩ (.int .i64 t355)).setCell ⟨gb358, 1, none⟩ (.int .i64 t356)).setCell ⟨gb358, 2, none⟩ (.bool t357)).heap[gb352]? = some (.cells #[.int .i64 t349, .int .i64 t350, .bool t351] 23 (0, 0))) := ⟨by (with_reducible repeat (first | refine blk_drewN ?_ _ | refine blk_drew ?_ | refine blk_alloc ?_ _)); refine blk_far ?_ NB352_358.out _; (with_reducible repeat (first | refine blk_drewN ?_ _ | refine blk_drew ?_ | refine blk_alloc ?_ _)); refine blk_far ?_ NB352_358.out _; (with_reducible repeat (first | refine blk_drewN ?_ _ | refine blk_drew ?_ | refine blk_alloc ?_ _)); refine blk_far ?_ NB352_358.out _; (with_reducible repeat (first | refine blk_drewN ?_ _ | refine blk_drew ?_ | refine blk_alloc ?_ _)); exact BK352.out⟩
                              have n2_ : Aside0 ((((w39.setCell ⟨gb358, 0, none⟩ (.int .i64 t355)).setCell ⟨gb358, 1, none⟩ (.int .i64 t356)).setCell ⟨gb358, 2, none⟩ (.bool t357)).heap[gb358]? = some (.cells #[.int .i64 t355, .int .i64 t356, .bool t357] 23 (0, 0))) := ⟨by (with_reducible repeat (first | refine blk_drewN ?_ _ | refine blk_drew ?_ | refine blk_alloc ?_ _)); refine blk_put (cs := #[.int .i64 t355, .int .i64 t356, .bool false]) ?_ 2 _ rfl; (with_reducible repeat (first | refine blk_drewN ?_ _ | refine blk_drew ?_ | refine blk_alloc ?_ _)); refine blk_put (cs := #[.int .i64 t355, .int .i64 0, .bool false]) ?_ 1 _ rfl; (with_reducible repeat (first | refine blk_drewN ?_ _ | refine blk_drew ?_ | refine blk_alloc ?_ _)); refine blk_put (cs := #[.int .i64 0, .int .i64 0, .bool false]) ?_ 0 _ rfl; (with_reducible repeat (first | refine blk_drewN ?_ _ | refine blk_drew ?_ | refine blk_alloc ?_ _)); exact BK358.out⟩
                              have n3_ : Aside0 (Below w.heap.size w (((w39.setCell ⟨gb358, 0, none⟩ (.int .i64 t355)).setCell ⟨gb358, 1, none⟩ (.int .i64 t356)).setCell ⟨gb358, 2, none⟩ (.bool t357))) := ⟨by repeat (first | (with_reducible first | exact HB.out | apply below_alloc | apply pw_below_drewN | apply below_drew1 | refine below_set ?_ GE348.out | refine below_set ?_ GE352.out | refine below_set ?_ GE358.out) | exact HB.out)⟩
                              (try clear BK348)
                              (try clear BK352)
                              (try clear BK358)
                              (try clear HB)
                              generalize (((w39.setCell ⟨gb358, 0, none⟩ (.int .i64 t355)).setCell ⟨gb358, 1, none⟩ (.int .i64 t356)).setCell ⟨gb358, 2, none⟩ (.bool t357)) = w63 at n0_ n1_ n2_ n3_ ⊢
                              have BK348 := n0_
                              have BK352 := n1_
                              have BK358 := n2_
                              have HB := n3_
                              clear n0_ n1_ n2_ n3_
                              have n0_ := Aside0.mk (blk_drew BK348.out)
                              have n1_ := Aside0.mk (blk_drew BK352.out)
                              have n2_ := Aside0.mk (blk_drew BK358.out)
                              have n3_ := Aside0.mk (below_drew1 HB.out)
                              clear BK348
                              clear BK352
                              clear BK358
                              clear HB
                              have BK348 := n0_
                              have BK352 := n1_
                              have BK358 := n2_
                              have HB := n3_
                              clear n0_ n1_ n2_ n3_
                              refine start_ (n := 31) (S := fun w' => w'.cell? ⟨gb348, 0, none⟩ = some (.int .i64 a0_0) ∧ w'.cell? ⟨gb348, 1, none⟩ = some (.int .i64 a0_1) ∧ w'.cell? ⟨gb348, 2, none⟩ = some (.bool a0_2) ∧ w'.cell? ⟨gb358, 0, none⟩ = some (.int .i64 t355) ∧ w'.cell? ⟨gb358, 1, none⟩ = some (.int .i64 t356) ∧ w'.cell? ⟨gb358, 2, none⟩ = some (.bool t357)) (ds := []) #[false, false, false, false, false, false, false, false, false, false, false, false, false, false, false, false, false, false, false, false, false, false, false, false, false, false, false, false, false, false, false] (by kernel_rfl) rfl rfl ⟨(blk_cell BK348.out 0).trans rfl, (blk_cell BK348.out 1).trans rfl, (blk_cell BK348.out 2).trans rfl, (blk_cell BK358.out 0).trans rfl, (blk_cell BK358.out 1).trans rfl, (blk_cell BK358.out 2).trans rfl⟩ (fun hHeld => ?_); refine with_tabW coupletlaw04_FracRoots.tab8 coupletlaw04_FracRoots.bits8 (fun HT_ HW_ => ?_)
                              generalize w63.drew = w64 at BK348 BK352 BK358 HB hHeld ⊢
                              refine pure_ (i := 2) (N := some 29) (v := ?_) (a' := ?_) #[false, false, true, false, false, false, false, false, false, false, false, false, false, false, false, false, false, false, false, false, false, false, false, false, false, false, false, false, false, false, false] rfl rfl (any_of HT_.out (by kernel_rfl)) (fun _ _ _ h => h) (Or.inl ⟨by rfl, ?_⟩) ?_ ?_
                              rotate_left
                              · intro w'
                                go_simp
                                with_reducible rfl
                              rotate_left
                              · simp only [Act.put, List.setIfInBounds_toArray, List.set_cons_zero, List.set_cons_succ, i64_w, i32_w]
                                rfl
                              refine take_ (i := 0) (N := some 27) (v := ?_) (a' := ?_) #[true, false, true, false, false, false, false, false, false, false, false, false, false, false, false, false, false, false, false, false, false, false, false, false, false, false, false, false, false, false, false] rfl rfl (take_ofW HT_.out HW_.out (by kernel_rfl)) (fun _ _ _ h => h) (Or.inl ⟨by rfl, ?_⟩) hHeld ?_ ?_
                              rotate_left
                              · rintro w' ⟨s0, s1, s2, s3, s4, s5⟩
                                go_simp
                                with_reducible rfl
                              rotate_left
                              · simp only [Act.put, List.setIfInBounds_toArray, List.set_cons_zero, List.set_cons_succ, i64_w, i32_w]
                                rfl
                              refine one_ (i := 1) (N := some 28) #[true, true, true, false, false, false, false, false, false, false, false, false, false, false, false, false, false, false, false, false, false, false, false, false, false, false, false, false, false, false, false] rfl rfl (one_of HT_.out (by kernel_rfl)) (by decide) (fun K hK => ?_)
                              refine goes_ Try.func21 (by kernel_rfl) rfl #[.agg #[.int .i64 a0_0, .int .i64 a0_1, .bool a0_2]] (by rfl) rfl rfl (by (try simp only [List.map_toArray, List.map_cons, List.map_nil]); first | done | rfl | (simp only [List.length_drop, List.length_take]; rfl)) ?_
                              with_reducible refine (frac_Frac_Sign.calls kj31 a0_0 a0_1 a0_2 t359 _ A43.out).mono ?_
                              rintro e w65 ⟨rfl, hb⟩
                              refine ⟨_, rfl, ?_⟩
                              have n0_ := Aside0.mk (blk_below (g := gb348) (o := .cells #[.int .i64 a0_0, .int .i64 a0_1, .bool a0_2] 23 (0, 0)) (by (with_reducible repeat (first | refine blk_drewN ?_ _ | refine blk_drew ?_ | refine blk_alloc ?_ _)); exact BK348.out) hb)
                              have n1_ := Aside0.mk (blk_below (g := gb352) (o := .cells #[.int .i64 t349, .int .i64 t350, .bool t351] 23 (0, 0)) (by (with_reducible repeat (first | refine blk_drewN ?_ _ | refine blk_drew ?_ | refine blk_alloc ?_ _)); exact BK352.out) hb)
                              have n2_ := Aside0.mk (blk_below (g := gb358) (o := .cells #[.int .i64 t355, .int .i64 t356, .bool t357] 23 (0, 0)) (by (with_reducible repeat (first | refine blk_drewN ?_ _ | refine blk_drew ?_ | refine blk_alloc ?_ _)); exact BK358.out) hb)
                              have n3_ := Aside0.mk (below_step (by repeat (first | (with_reducible first | exact HB.out | apply below_alloc | apply pw_below_drewN | apply below_drew1 | refine below_set ?_ GE348.out | refine below_set ?_ GE352.out | refine below_set ?_ GE358.out) | exact HB.out)) hb)
                              clear BK348
                              clear BK352
                              clear BK358
                              clear HB
                              have BK348 := n0_
                              have BK352 := n1_
                              have BK358 := n2_
                              have HB := n3_
                              clear n0_ n1_ n2_ n3_
                              (try clear hb)
                              (try clear hb2)
                              (try clear hk)
                              (try clear hi)
                              refine hK.out _ _ ⟨(blk_cell BK348.out 0).trans rfl, (blk_cell BK348.out 1).trans rfl, (blk_cell BK348.out 2).trans rfl, (blk_cell BK358.out 0).trans rfl, (blk_cell BK358.out 1).trans rfl, (blk_cell BK358.out 2).trans rfl⟩ (fun hHeld => ?_)
                              clear hK K
                              refine norm_ (a' := ?_) ?_ ?_
                              rotate_left
                              · show Act.put _ (some 28) _ = _
                                simp only [Act.put, List.setIfInBounds_toArray, List.set_cons_zero, List.set_cons_succ, i64_w, i32_w]
                                rfl
                              refine pure_ (i := 3) (N := some 30) (v := ?_) (a' := ?_) #[true, true, true, true, false, false, false, false, false, false, false, false, false, false, false, false, false, false, false, false, false, false, false, false, false, false, false, false, false, false, false] rfl rfl (any_of HT_.out (by kernel_rfl)) (fun _ _ _ h => h) (Or.inl ⟨by rfl, ?_⟩) ?_ ?_
                              rotate_left
                              · intro w'
                                go_simp
                                with_reducible rfl
                              rotate_left
                              · simp only [Act.put, List.setIfInBounds_toArray, List.set_cons_zero, List.set_cons_succ, i64_w, i32_w]
                                rfl
                              refine pure_ (i := 4) (N := some 31) (v := ?_) (a' := ?_) #[true, true, true, true, true, false, false, false, false, false, false, false, false, false, false, false, false, false, false, false, false, false, false, false, false, false, false, false, false, false, false] rfl rfl (any_of HT_.out (by kernel_rfl)) (fun _ _ _ h => h) (Or.inl ⟨by rfl, ?_⟩) ?_ ?_
                              rotate_left
                              · intro w'
                                go_simp
                                with_reducible rfl
                              rotate_left
                              · simp only [Act.put, List.setIfInBounds_toArray, List.set_cons_zero, List.set_cons_succ, i64_w, i32_w]
                                rfl
                              refine take_ (i := 5) (N := some 32) (v := ?_) (a' := ?_) #[true, true, true, true, true, true, false, false, false, false, false, false, false, false, false, false, false, false, false, false, false, false, false, false, false, false, false, false, false, false, false] rfl rfl (take_ofW HT_.out HW_.out (by kernel_rfl)) (fun _ _ _ h => h) (Or.inl ⟨by rfl, ?_⟩) hHeld ?_ ?_
                              rotate_left
                              · rintro w' ⟨s0, s1, s2, s3, s4, s5⟩
                                go_simp
                                with_reducible rfl
                              rotate_left
                              · simp only [Act.put, List.setIfInBounds_toArray, List.set_cons_zero, List.set_cons_succ, i64_w, i32_w]
                                rfl
                              refine take_ (i := 7) (N := some 34) (v := ?_) (a' := ?_) #[true, true, true, true, true, true, false, true, false, false, false, false, false, false, false, false, false, false, false, false, false, false, false, false, false, false, false, false, false, false, false] rfl rfl (take_ofW HT_.out HW_.out (by kernel_rfl)) (fun _ _ _ h => h) (Or.inl ⟨by rfl, ?_⟩) hHeld ?_ ?_
                              rotate_left
                              · rintro w' ⟨s0, s1, s2, s3, s4, s5⟩
                                go_simp
                                with_reducible rfl
                              rotate_left
                              · simp only [Act.put, List.setIfInBounds_toArray, List.set_cons_zero, List.set_cons_succ, i64_w, i32_w]
                                rfl
                              refine one_ (i := 6) (N := some 33) #[true, true, true, true, true, true, true, true, false, false, false, false, false, false, false, false, false, false, false, false, false, false, false, false, false, false, false, false, false, false, false] rfl rfl (one_of HT_.out (by kernel_rfl)) (by decide) (fun K hK => ?_)
                              refine goes_ Try.func14 (by kernel_rfl) rfl #[.agg #[.int .i64 a0_0, .int .i64 a0_1, .bool a0_2]] (by rfl) rfl rfl (by (try simp only [List.map_toArray, List.map_cons, List.map_nil]); first | done | rfl | (simp only [List.length_drop, List.length_take]; rfl)) ?_
                              with_reducible refine (frac_Frac_Fine.calls kj31 a0_0 a0_1 a0_2 t360 _ A45.out).mono ?_
                              rintro e w66 ⟨rfl, hb⟩
                              refine ⟨_, rfl, ?_⟩
                              have n0_ := Aside0.mk (blk_below (g := gb348) (o := .cells #[.int .i64 a0_0, .int .i64 a0_1, .bool a0_2] 23 (0, 0)) (by (with_reducible repeat (first | refine blk_drewN ?_ _ | refine blk_drew ?_ | refine blk_alloc ?_ _)); exact BK348.out) hb)
                              have n1_ := Aside0.mk (blk_below (g := gb352) (o := .cells #[.int .i64 t349, .int .i64 t350, .bool t351] 23 (0, 0)) (by (with_reducible repeat (first | refine blk_drewN ?_ _ | refine blk_drew ?_ | refine blk_alloc ?_ _)); exact BK352.out) hb)
                              have n2_ := Aside0.mk (blk_below (g := gb358) (o := .cells #[.int .i64 t355, .int .i64 t356, .bool t357] 23 (0, 0)) (by (with_reducible repeat (first | refine blk_drewN ?_ _ | refine blk_drew ?_ | refine blk_alloc ?_ _)); exact BK358.out) hb)
                              have n3_ := Aside0.mk (below_step (by repeat (first | (with_reducible first | exact HB.out | apply below_alloc | apply pw_below_drewN | apply below_drew1 | refine below_set ?_ GE348.out | refine below_set ?_ GE352.out | refine below_set ?_ GE358.out) | exact HB.out)) hb)
                              clear BK348
                              clear BK352
                              clear BK358
                              clear HB
                              have BK348 := n0_
                              have BK352 := n1_
                              have BK358 := n2_
                              have HB := n3_
                              clear n0_ n1_ n2_ n3_
                              (try clear hb)
                              (try clear hb2)
                              (try clear hk)
                              (try clear hi)
                              refine hK.out _ _ ⟨(blk_cell BK348.out 0).trans rfl, (blk_cell BK348.out 1).trans rfl, (blk_cell BK348.out 2).trans rfl, (blk_cell BK358.out 0).trans rfl, (blk_cell BK358.out 1).trans rfl, (blk_cell BK358.out 2).trans rfl⟩ (fun hHeld => ?_)
                              clear hK K
                              refine norm_ (a' := ?_) ?_ ?_
                              rotate_left
                              · show Act.put _ (some 33) _ = _
                                simp only [Act.put, List.setIfInBounds_toArray, List.set_cons_zero, List.set_cons_succ, i64_w, i32_w]
                                rfl
                              refine one_ (i := 8) (N := some 35) #[true, true, true, true, true, true, true, true, true, false, false, false, false, false, false, false, false, false, false, false, false, false, false, false, false, false, false, false, false, false, false] rfl rfl (one_of HT_.out (by kernel_rfl)) (by decide) (fun K hK => ?_)
                              refine goes_ Try.func13 (by kernel_rfl) rfl #[.agg #[.int .i64 a0_0, .int .i64 a0_1, .bool a0_2]] (by rfl) rfl rfl (by (try simp only [List.map_toArray, List.map_cons, List.map_nil]); first | done | rfl | (simp only [List.length_drop, List.length_take]; rfl)) ?_
                              with_reducible refine (coupletlaw04_fine.calls kj31 a0_0 a0_1 a0_2 t361 _ A46.out).mono ?_
                              rintro e w67 ⟨rfl, hb⟩
                              refine ⟨_, rfl, ?_⟩
                              have n0_ := Aside0.mk (blk_below (g := gb348) (o := .cells #[.int .i64 a0_0, .int .i64 a0_1, .bool a0_2] 23 (0, 0)) (by (with_reducible repeat (first | refine blk_drewN ?_ _ | refine blk_drew ?_ | refine blk_alloc ?_ _)); exact BK348.out) hb)
                              have n1_ := Aside0.mk (blk_below (g := gb352) (o := .cells #[.int .i64 t349, .int .i64 t350, .bool t351] 23 (0, 0)) (by (with_reducible repeat (first | refine blk_drewN ?_ _ | refine blk_drew ?_ | refine blk_alloc ?_ _)); exact BK352.out) hb)
                              have n2_ := Aside0.mk (blk_below (g := gb358) (o := .cells #[.int .i64 t355, .int .i64 t356, .bool t357] 23 (0, 0)) (by (with_reducible repeat (first | refine blk_drewN ?_ _ | refine blk_drew ?_ | refine blk_alloc ?_ _)); exact BK358.out) hb)
                              have n3_ := Aside0.mk (below_step (by repeat (first | (with_reducible first | exact HB.out | apply below_alloc | apply pw_below_drewN | apply below_drew1 | refine below_set ?_ GE348.out | refine below_set ?_ GE352.out | refine below_set ?_ GE358.out) | exact HB.out)) hb)
                              clear BK348
                              clear BK352
                              clear BK358
                              clear HB
                              have BK348 := n0_
                              have BK352 := n1_
                              have BK358 := n2_
                              have HB := n3_
                              clear n0_ n1_ n2_ n3_
                              (try clear hb)
                              (try clear hb2)
                              (try clear hk)
                              (try clear hi)
                              refine hK.out _ _ ⟨(blk_cell BK348.out 0).trans rfl, (blk_cell BK348.out 1).trans rfl, (blk_cell BK348.out 2).trans rfl, (blk_cell BK358.out 0).trans rfl, (blk_cell BK358.out 1).trans rfl, (blk_cell BK358.out 2).trans rfl⟩ (fun hHeld => ?_)
                              clear hK K
                              refine norm_ (a' := ?_) ?_ ?_
                              rotate_left
                              · show Act.put _ (some 35) _ = _
                                simp only [Act.put, List.setIfInBounds_toArray, List.set_cons_zero, List.set_cons_succ, i64_w, i32_w]
                                rfl
                              refine pure_ (i := 9) (N := some 36) (v := ?_) (a' := ?_) #[true, true, true, true, true, true, true, true, true, true, false, false, false, false, false, false, false, false, false, false, false, false, false, false, false, false, false, false, false, false, false] rfl rfl (any_of HT_.out (by kernel_rfl)) (fun _ _ _ h => h) (Or.inl ⟨by rfl, ?_⟩) ?_ ?_
                              rotate_left
                              · intro w'
                                go_simp
                                with_reducible rfl
                              rotate_left
                              · simp only [Act.put, List.setIfInBounds_toArray, List.set_cons_zero, List.set_cons_succ, i64_w, i32_w]
                                rfl
                              refine pure_ (i := 10) (N := some 37) (v := ?_) (a' := ?_) #[true, true, true, true, true, true, true, true, true, true, true, false, false, false, false, false, false, false, false, false, false, false, false, false, false, false, false, false, false, false, false] rfl rfl (any_of HT_.out (by kernel_rfl)) (fun _ _ _ h => h) (Or.inl ⟨by rfl, ?_⟩) ?_ ?_
                              rotate_left
                              · intro w'
                                go_simp
                                with_reducible rfl
                              rotate_left
                              · simp only [Act.put, List.setIfInBounds_toArray, List.set_cons_zero, List.set_cons_succ, i64_w, i32_w]
                                rfl
                              refine pure_ (i := 11) (N := some 38) (v := ?_) (a' := ?_) #[true, true, true, true, true, true, true, true, true, true, true, true, false, false, false, false, false, false, false, false, false, false, false, false, false, false, false, false, false, false, false] rfl rfl (any_of HT_.out (by kernel_rfl)) (fun _ _ _ h => h) (Or.inl ⟨by rfl, ?_⟩) ?_ ?_
                              rotate_left
                              · intro w'
                                go_simp
                                with_reducible rfl
                              rotate_left
                              · simp only [Act.put, List.setIfInBounds_toArray, List.set_cons_zero, List.set_cons_succ, i64_w, i32_w]
                                rfl
                              refine pure_ (i := 12) (N := some 39) (v := ?_) (a' := ?_) #[true, true, true, true, true, true, true, true, true, true, true, true, true, false, false, false, false, false, false, false, false, false, false, false, false, false, false, false, false, false, false] rfl rfl (any_of HT_.out (by kernel_rfl)) (fun _ _ _ h => h) (Or.inl ⟨by rfl, ?_⟩) ?_ ?_
                              rotate_left
                              · intro w'
                                go_simp
                                with_reducible rfl
                              rotate_left
                              · simp only [Act.put, List.setIfInBounds_toArray, List.set_cons_zero, List.set_cons_succ, i64_w, i32_w]
                                rfl
                              refine one_ (i := 13) (N := some 40) #[true, true, true, true, true, true, true, true, true, true, true, true, true, true, false, false, false, false, false, false, false, false, false, false, false, false, false, false, false, false, false] rfl rfl (one_of HT_.out (by kernel_rfl)) (by decide) (fun K hK => ?_)
                              refine goes_ Try.func16 (by kernel_rfl) rfl #[.int .i64 a1] (by rfl) rfl rfl (by (try simp only [List.map_toArray, List.map_cons, List.map_nil]); first | done | rfl | (simp only [List.length_drop, List.length_take]; rfl)) ?_
                              with_reducible refine (coupletlaw04_small.calls a1 true _ A53.out).mono ?_
                              rintro e w' ⟨rfl, ⟨nd, rfl⟩⟩
                              refine ⟨_, rfl, ?_⟩
                              refine hK.out _ _ ⟨(blk_cell BK348.out 0).trans rfl, (blk_cell BK348.out 1).trans rfl, (blk_cell BK348.out 2).trans rfl, (blk_cell BK358.out 0).trans rfl, (blk_cell BK358.out 1).trans rfl, (blk_cell BK358.out 2).trans rfl⟩ (fun hHeld => ?_)
                              clear hK K
                              refine norm_ (a' := ?_) ?_ ?_
                              rotate_left
                              · show Act.put _ (some 40) _ = _
                                simp only [Act.put, List.setIfInBounds_toArray, List.set_cons_zero, List.set_cons_succ, i64_w, i32_w]
                                rfl
                              refine pure_ (i := 14) (N := some 41) (v := ?_) (a' := ?_) #[true, true, true, true, true, true, true, true, true, true, true, true, true, true, true, false, false, false, false, false, false, false, false, false, false, false, false, false, false, false, false] rfl rfl (any_of HT_.out (by kernel_rfl)) (fun _ _ _ h => h) (Or.inl ⟨by rfl, ?_⟩) ?_ ?_
                              rotate_left
                              · intro w'
                                go_simp
                                with_reducible rfl
                              rotate_left
                              · simp only [Act.put, List.setIfInBounds_toArray, List.set_cons_zero, List.set_cons_succ, i64_w, i32_w]
                                rfl
                              refine pure_ (i := 16) (N := some 43) (v := ?_) (a' := ?_) #[true, true, true, true, true, true, true, true, true, true, true, true, true, true, true, false, true, false, false, false, false, false, false, false, false, false, false, false, false, false, false] rfl rfl (any_of HT_.out (by kernel_rfl)) (fun _ _ _ h => h) (Or.inl ⟨by rfl, ?_⟩) ?_ ?_
                              rotate_left
                              · intro w'
                                go_simp
                                with_reducible rfl
                              rotate_left
                              · simp only [Act.put, List.setIfInBounds_toArray, List.set_cons_zero, List.set_cons_succ, i64_w, i32_w]
                                rfl
                              refine pure_ (i := 17) (N := some 44) (v := ?_) (a' := ?_) #[true, true, true, true, true, true, true, true, true, true, true, true, true, true, true, false, true, true, false, false, false, false, false, false, false, false, false, false, false, false, false] rfl rfl (any_of HT_.out (by kernel_rfl)) (fun _ _ _ h => h) (Or.inl ⟨by rfl, ?_⟩) ?_ ?_
                              rotate_left
                              · intro w'
                                go_simp
                                with_reducible rfl
                              rotate_left
                              · simp only [Act.put, List.setIfInBounds_toArray, List.set_cons_zero, List.set_cons_succ, i64_w, i32_w]
                                rfl
                              refine take_ (i := 15) (N := some 42) (v := ?_) (a' := ?_) #[true, true, true, true, true, true, true, true, true, true, true, true, true, true, true, true, true, true, false, false, false, false, false, false, false, false, false, false, false, false, false] rfl rfl (take_ofW HT_.out HW_.out (by kernel_rfl)) (fun _ _ _ h => h) (Or.inl ⟨by rfl, ?_⟩) hHeld ?_ ?_
                              rotate_left
                              · rintro w' ⟨s0, s1, s2, s3, s4, s5⟩
                                go_simp
                                with_reducible rfl
                              rotate_left
                              · simp only [Act.put, List.setIfInBounds_toArray, List.set_cons_zero, List.set_cons_succ, i64_w, i32_w]
                                rfl
                              refine pure_ (i := 18) (N := some 45) (v := ?_) (a' := ?_) #[true, true, true, true, true, true, true, true, true, true, true, true, true, true, true, true, true, true, true, false, false, false, false, false, false, false, false, false, false, false, false] rfl rfl (any_of HT_.out (by kernel_rfl)) (fun _ _ _ h => h) (Or.inl ⟨by rfl, ?_⟩) ?_ ?_
                              rotate_left
                              · intro w'
                                go_simp
                                with_reducible rfl
                              rotate_left
                              · simp only [Act.put, List.setIfInBounds_toArray, List.set_cons_zero, List.set_cons_succ, i64_w, i32_w]
                                rfl
                              refine pure_ (i := 19) (N := some 46) (v := ?_) (a' := ?_) #[true, true, true, true, true, true, true, true, true, true, true, true, true, true, true, true, true, true, true, true, false, false, false, false, false, false, false, false, false, false, false] rfl rfl (any_of HT_.out (by kernel_rfl)) (fun _ _ _ h => h) (Or.inl ⟨by rfl, ?_⟩) ?_ ?_
                              rotate_left
                              · intro w'
                                go_simp
                                with_reducible rfl
                              rotate_left
                              · simp only [Act.put, List.setIfInBounds_toArray, List.set_cons_zero, List.set_cons_succ, i64_w, i32_w]
                                rfl
                              refine pure_ (i := 20) (N := some 47) (v := ?_) (a' := ?_) #[true, true, true, true, true, true, true, true, true, true, true, true, true, true, true, true, true, true, true, true, true, false, false, false, false, false, false, false, false, false, false] rfl rfl (any_of HT_.out (by kernel_rfl)) (fun _ _ _ h => h) (Or.inl ⟨by rfl, ?_⟩) ?_ ?_
                              rotate_left
                              · intro w'
                                go_simp
                                with_reducible rfl
                              rotate_left
                              · simp only [Act.put, List.setIfInBounds_toArray, List.set_cons_zero, List.set_cons_succ, i64_w, i32_w]
                                rfl
                              refine pure_ (i := 21) (N := some 48) (v := ?_) (a' := ?_) #[true, true, true, true, true, true, true, true, true, true, true, true, true, true, true, true, true, true, true, true, true, true, false, false, false, false, false, false, false, false, false] rfl rfl (any_of HT_.out (by kernel_rfl)) (fun _ _ _ h => h) (Or.inl ⟨by rfl, ?_⟩) ?_ ?_
                              rotate_left
                              · intro w'
                                go_simp
                                with_reducible rfl
                              rotate_left
                              · simp only [Act.put, List.setIfInBounds_toArray, List.set_cons_zero, List.set_cons_succ, i64_w, i32_w]
                                rfl
                              refine pure_ (i := 22) (N := some 49) (v := ?_) (a' := ?_) #[true, true, true, true, true, true, true, true, true, true, true, true, true, true, true, true, true, true, true, true, true, true, true, false, false, false, false, false, false, false, false] rfl rfl (any_of HT_.out (by kernel_rfl)) (fun _ _ _ h => h) (Or.inl ⟨by rfl, ?_⟩) ?_ ?_
                              rotate_left
                              · intro w'
                                go_simp
                                with_reducible rfl
                              rotate_left
                              · simp only [Act.put, List.setIfInBounds_toArray, List.set_cons_zero, List.set_cons_succ, i64_w, i32_w]
                                rfl
                              refine one_ (i := 23) (N := some 50) #[true, true, true, true, true, true, true, true, true, true, true, true, true, true, true, true, true, true, true, true, true, true, true, true, false, false, false, false, false, false, false] rfl rfl (one_of HT_.out (by kernel_rfl)) (by decide) (fun K hK => ?_)
                              refine goes_ Try.func16 (by kernel_rfl) rfl #[.int .i64 a1] (by rfl) rfl rfl (by (try simp only [List.map_toArray, List.map_cons, List.map_nil]); first | done | rfl | (simp only [List.length_drop, List.length_take]; rfl)) ?_
                              with_reducible refine (coupletlaw04_small.calls a1 true _ A61.out).mono ?_
                              rintro e w' ⟨rfl, ⟨nd, rfl⟩⟩
                              refine ⟨_, rfl, ?_⟩
                              refine hK.out _ _ ⟨(blk_cell BK348.out 0).trans rfl, (blk_cell BK348.out 1).trans rfl, (blk_cell BK348.out 2).trans rfl, (blk_cell BK358.out 0).trans rfl, (blk_cell BK358.out 1).trans rfl, (blk_cell BK358.out 2).trans rfl⟩ (fun hHeld => ?_)
                              clear hK K
                              refine norm_ (a' := ?_) ?_ ?_
                              rotate_left
                              · show Act.put _ (some 50) _ = _
                                simp only [Act.put, List.setIfInBounds_toArray, List.set_cons_zero, List.set_cons_succ, i64_w, i32_w]
                                rfl
                              refine pure_ (i := 24) (N := some 51) (v := ?_) (a' := ?_) #[true, true, true, true, true, true, true, true, true, true, true, true, true, true, true, true, true, true, true, true, true, true, true, true, true, false, false, false, false, false, false] rfl rfl (any_of HT_.out (by kernel_rfl)) (fun _ _ _ h => h) (Or.inl ⟨by rfl, ?_⟩) ?_ ?_
                              rotate_left
                              · intro w'
                                go_simp
                                with_reducible rfl
                              rotate_left
                              · simp only [Act.put, List.setIfInBounds_toArray, List.set_cons_zero, List.set_cons_succ, i64_w, i32_w]
                                rfl
                              refine pure_ (i := 25) (N := some 52) (v := ?_) (a' := ?_) #[true, true, true, true, true, true, true, true, true, true, true, true, true, true, true, true, true, true, true, true, true, true, true, true, true, true, false, false, false, false, false] rfl rfl (any_of HT_.out (by kernel_rfl)) (fun _ _ _ h => h) (Or.inl ⟨by rfl, ?_⟩) ?_ ?_
                              rotate_left
                              · intro w'
                                go_simp
                                with_reducible rfl
                              rotate_left
                              · simp only [Act.put, List.setIfInBounds_toArray, List.set_cons_zero, List.set_cons_succ, i64_w, i32_w]
                                rfl
                              refine pure_ (i := 26) (N := some 53) (v := undef) (a' := ?_) #[true, true, true, true, true, true, true, true, true, true, true, true, true, true, true, true, true, true, true, true, true, true, true, true, true, true, true, false, false, false, false] rfl rfl (any_of HT_.out (by kernel_rfl)) (fun _ _ _ h => h) (Or.inr ⟨by rfl, rfl⟩) ?_ ?_
                              rotate_left
                              · simp only [Act.put, List.setIfInBounds_toArray, List.set_cons_zero, List.set_cons_succ, i64_w, i32_w]
                                rfl
                              refine pure_ (i := 27) (N := some 54) (v := undef) (a' := ?_) #[true, true, true, true, true, true, true, true, true, true, true, true, true, true, true, true, true, true, true, true, true, true, true, true, true, true, true, true, false, false, false] rfl rfl (any_of HT_.out (by kernel_rfl)) (fun _ _ _ h => h) (Or.inr ⟨by rfl, rfl⟩) ?_ ?_
                              rotate_left
                              · simp only [Act.put, List.setIfInBounds_toArray, List.set_cons_zero, List.set_cons_succ, i64_w, i32_w]
                                rfl
                              refine pure_ (i := 28) (N := some 55) (v := undef) (a' := ?_) #[true, true, true, true, true, true, true, true, true, true, true, true, true, true, true, true, true, true, true, true, true, true, true, true, true, true, true, true, true, false, false] rfl rfl (any_of HT_.out (by kernel_rfl)) (fun _ _ _ h => h) (Or.inr ⟨by rfl, rfl⟩) ?_ ?_
                              rotate_left
                              · simp only [Act.put, List.setIfInBounds_toArray, List.set_cons_zero, List.set_cons_succ, i64_w, i32_w]
                                rfl
                              refine pure_ (i := 29) (N := some 56) (v := ?_) (a' := ?_) #[true, true, true, true, true, true, true, true, true, true, true, true, true, true, true, true, true, true, true, true, true, true, true, true, true, true, true, true, true, true, false] rfl rfl (any_of HT_.out (by kernel_rfl)) (fun _ _ _ h => h) (Or.inl ⟨by rfl, ?_⟩) ?_ ?_
                              rotate_left
                              · intro w'
                                go_simp
                                with_reducible rfl
                              rotate_left
                              · simp only [Act.put, List.setIfInBounds_toArray, List.set_cons_zero, List.set_cons_succ, i64_w, i32_w]
                                rfl
                              refine pure_ (i := 30) (N := some 57) (v := ?_) (a' := ?_) #[true, true, true, true, true, true, true, true, true, true, true, true, true, true, true, true, true, true, true, true, true, true, true, true, true, true, true, true, true, true, true] rfl rfl (any_of HT_.out (by kernel_rfl)) (fun _ _ _ h => h) (Or.inl ⟨by rfl, ?_⟩) ?_ ?_
                              rotate_left
                              · intro w'
                                go_simp
                                with_reducible rfl
                              rotate_left
                              · simp only [Act.put, List.setIfInBounds_toArray, List.set_cons_zero, List.set_cons_succ, i64_w, i32_w]
                                rfl
                              refine done_ (done_of HT_.out (by kernel_rfl)) ?_
                              try go_wp2
                              go_meet
                              case rel => exact ⟨_, (false), (by first | rfl | (simp; done) | (simp [*]; done)), H', ⟨by have := HJ3.out; have := HJ19.out; have := HJ21.out; have := HJ31.out; first | omega | exact Nat.le_refl _⟩, ⟨by (with_reducible repeat (first | refine blk_drewN ?_ _ | refine blk_drew ?_ | refine blk_alloc ?_ _)); exact BK348.out⟩, ⟨by (with_reducible repeat (first | refine blk_drewN ?_ _ | refine blk_drew ?_ | refine blk_alloc ?_ _)); exact BK352.out⟩, ⟨by (with_reducible repeat (first | refine blk_drewN ?_ _ | refine blk_drew ?_ | refine blk_alloc ?_ _)); exact BK358.out⟩, ⟨by repeat (first | (with_reducible first | exact HB.out | apply below_alloc | apply pw_below_drewN | apply below_drew1 | refine below_set ?_ GE348.out | refine below_set ?_ GE352.out | refine below_set ?_ GE358.out) | exact HB.out)⟩⟩
                            · exact absurd rfl c62
                        · replace c54 := Bool.eq_false_iff.mpr c54
                          subst c54
                          have H1 : ((coupletlaw04_small.f a1).bind fun t364 => (if t364 = true then (coupletlaw04_FracRoots.j4 kj31 false a0_0 a0_1 a0_2 t349 t350 t351) else (coupletlaw04_FracRoots.j4 kj31 (!t357) a0_0 a0_1 a0_2 t349 t350 t351))) = some r := by rw [if_neg (show ¬ (false = true) by decide)] at H; exact H
                          clear H
                          have H := H1
                          clear H1
                          replace H := Option.bind_eq_some_iff.mp H
                          obtain ⟨t364, A730, H⟩ := H
                          replace H : (if t364 = true then (coupletlaw04_FracRoots.j4 kj31 false a0_0 a0_1 a0_2 t349 t350 t351) else (coupletlaw04_FracRoots.j4 kj31 (!t357) a0_0 a0_1 a0_2 t349 t350 t351)) = some r := H
                          have A73 := Aside0.mk A730
                          clear A730
                          have e_ := Option.some.inj (A53.out.symm.trans A73.out)
                          obtain rfl := e_
                          by_cases c74 : false = true
                          · exact absurd c74 (by decide)
                          · replace c74 := Bool.eq_false_iff.mpr c74
                            clear c74
                            have H1 : (coupletlaw04_FracRoots.j4 kj31 (!t357) a0_0 a0_1 a0_2 t349 t350 t351) = some r := by rw [if_neg (show ¬ (false = true) by decide)] at H; exact H
                            clear H
                            have H := H1
                            clear H1
                            have H' := Aside0.mk H
                            clear H
                            try go_wp2
                            have n0_ : Aside0 ((((w39.setCell ⟨gb358, 0, none⟩ (.int .i64 t355)).setCell ⟨gb358, 1, none⟩ (.int .i64 t356)).setCell ⟨gb358, 2, none⟩ (.bool t357)).heap[gb348]? = some (.cells #[.int .i64 a0_0, .int .i64 a0_1, .bool a0_2] 23 (0, 0))) := ⟨by (with_reducible repeat (first | refine blk_drewN ?_ _ | refine blk_drew ?_ | refine blk_alloc ?_ _)); refine blk_far ?_ NB348_358.out _; (with_reducible repeat (first | refine blk_drewN ?_ _ | refine blk_drew ?_ | refine blk_alloc ?_ _)); refine blk_far ?_ NB348_358.out _; (with_reducible repeat (first | refine blk_drewN ?_ _ | refine blk_drew ?_ | refine blk_alloc ?_ _)); refine blk_far ?_ NB348_358.out _; (with_reducible repeat (first | refine blk_drewN ?_ _ | refine blk_drew ?_ | refine blk_alloc ?_ _)); exact BK348.out⟩
                            have n1_ : Aside0 ((((w39.setCell ⟨gb358, 0, none⟩ (.int .i64 t355)).setCell ⟨gb358, 1, none⟩ (.int .i64 t356)).setCell ⟨gb358, 2, none⟩ (.bool t357)).heap[gb352]? = some (.cells #[.int .i64 t349, .int .i64 t350, .bool t351] 23 (0, 0))) := ⟨by (with_reducible repeat (first | refine blk_drewN ?_ _ | refine blk_drew ?_ | refine blk_alloc ?_ _)); refine blk_far ?_ NB352_358.out _; (with_reducible repeat (first | refine blk_drewN ?_ _ | refine blk_drew ?_ | refine blk_alloc ?_ _)); refine blk_far ?_ NB352_358.out _; (with_reducible repeat (first | refine blk_drewN ?_ _ | refine blk_drew ?_ | refine blk_alloc ?_ _)); refine blk_far ?_ NB352_358.out _; (with_reducible repeat (first | refine blk_drewN ?_ _ | refine blk_drew ?_ | refine blk_alloc ?_ _)); exact BK352.out⟩
                            have n2_ : Aside0 ((((w39.setCell ⟨gb358, 0, none⟩ (.int .i64 t355)).setCell ⟨gb358, 1, none⟩ (.int .i64 t356)).setCell ⟨gb358, 2, none⟩ (.bool t357)).heap[gb358]? = some (.cells #[.int .i64 t355, .int .i64 t356, .bool t357] 23 (0, 0))) := ⟨by (with_reducible repeat (first | refine blk_drewN ?_ _ | refine blk_drew ?_ | refine blk_alloc ?_ _)); refine blk_put (cs := #[.int .i64 t355, .int .i64 t356, .bool false]) ?_ 2 _ rfl; (with_reducible repeat (first | refine blk_drewN ?_ _ | refine blk_drew ?_ | refine blk_alloc ?_ _)); refine blk_put (cs := #[.int .i64 t355, .int .i64 0, .bool false]) ?_ 1 _ rfl; (with_reducible repeat (first | refine blk_drewN ?_ _ | refine blk_drew ?_ | refine blk_alloc ?_ _)); refine blk_put (cs := #[.int .i64 0, .int .i64 0, .bool false]) ?_ 0 _ rfl; (with_reducible repeat (first | refine blk_drewN ?_ _ | refine blk_drew ?_ | refine blk_alloc ?_ _)); exact BK358.out⟩
                            have n3_ : Aside0 (Below w.heap.size w (((w39.setCell ⟨gb358, 0, none⟩ (.int .i64 t355)).setCell ⟨gb358, 1, none⟩ (.int .i64 t356)).setCell ⟨gb358, 2, none⟩ (.bool t357))) := ⟨by repeat (first | (with_reducible first | exact HB.out | apply below_alloc | apply pw_below_drewN | apply below_drew1 | refine below_set ?_ GE348.out | refine below_set ?_ GE352.out | refine below_set ?_ GE358.out) | exact HB.out)⟩
                            (try clear BK348)
                            (try clear BK352)
                            (try clear BK358)
                            (try clear HB)
                            generalize (((w39.setCell ⟨gb358, 0, none⟩ (.int .i64 t355)).setCell ⟨gb358, 1, none⟩ (.int .i64 t356)).setCell ⟨gb358, 2, none⟩ (.bool t357)) = w80 at n0_ n1_ n2_ n3_ ⊢
                            have BK348 := n0_
                            have BK352 := n1_
                            have BK358 := n2_
                            have HB := n3_
                            clear n0_ n1_ n2_ n3_
                            have n0_ := Aside0.mk (blk_drew BK348.out)
                            have n1_ := Aside0.mk (blk_drew BK352.out)
                            have n2_ := Aside0.mk (blk_drew BK358.out)
                            have n3_ := Aside0.mk (below_drew1 HB.out)
                            clear BK348
                            clear BK352
                            clear BK358
                            clear HB
                            have BK348 := n0_
                            have BK352 := n1_
                            have BK358 := n2_
                            have HB := n3_
                            clear n0_ n1_ n2_ n3_
                            refine start_ (n := 31) (S := fun w' => w'.cell? ⟨gb348, 0, none⟩ = some (.int .i64 a0_0) ∧ w'.cell? ⟨gb348, 1, none⟩ = some (.int .i64 a0_1) ∧ w'.cell? ⟨gb348, 2, none⟩ = some (.bool a0_2) ∧ w'.cell? ⟨gb358, 0, none⟩ = some (.int .i64 t355) ∧ w'.cell? ⟨gb358, 1, none⟩ = some (.int .i64 t356) ∧ w'.cell? ⟨gb358, 2, none⟩ = some (.bool t357)) (ds := []) #[false, false, false, false, false, false, false, false, false, false, false, false, false, false, false, false, false, false, false, false, false, false, false, false, false, false, false, false, false, false, false] (by kernel_rfl) rfl rfl ⟨(blk_cell BK348.out 0).trans rfl, (blk_cell BK348.out 1).trans rfl, (blk_cell BK348.out 2).trans rfl, (blk_cell BK358.out 0).trans rfl, (blk_cell BK358.out 1).trans rfl, (blk_cell BK358.out 2).trans rfl⟩ (fun hHeld => ?_); refine with_tabW coupletlaw04_FracRoots.tab8 coupletlaw04_FracRoots.bits8 (fun HT_ HW_ => ?_)
                            generalize w80.drew = w81 at BK348 BK352 BK358 HB hHeld ⊢
                            refine pure_ (i := 2) (N := some 29) (v := ?_) (a' := ?_) #[false, false, true, false, false, false, false, false, false, false, false, false, false, false, false, false, false, false, false, false, false, false, false, false, false, false, false, false, false, false, false] rfl rfl (any_of HT_.out (by kernel_rfl)) (fun _ _ _ h => h) (Or.inl ⟨by rfl, ?_⟩) ?_ ?_
                            rotate_left
                            · intro w'
                              go_simp
                              with_reducible rfl
                            rotate_left
                            · simp only [Act.put, List.setIfInBounds_toArray, List.set_cons_zero, List.set_cons_succ, i64_w, i32_w]
                              rfl
                            refine take_ (i := 0) (N := some 27) (v := ?_) (a' := ?_) #[true, false, true, false, false, false, false, false, false, false, false, false, false, false, false, false, false, false, false, false, false, false, false, false, false, false, false, false, false, false, false] rfl rfl (take_ofW HT_.out HW_.out (by kernel_rfl)) (fun _ _ _ h => h) (Or.inl ⟨by rfl, ?_⟩) hHeld ?_ ?_
                            rotate_left
                            · rintro w' ⟨s0, s1, s2, s3, s4, s5⟩
                              go_simp
                              with_reducible rfl
                            rotate_left
                            · simp only [Act.put, List.setIfInBounds_toArray, List.set_cons_zero, List.set_cons_succ, i64_w, i32_w]
                              rfl
                            refine one_ (i := 1) (N := some 28) #[true, true, true, false, false, false, false, false, false, false, false, false, false, false, false, false, false, false, false, false, false, false, false, false, false, false, false, false, false, false, false] rfl rfl (one_of HT_.out (by kernel_rfl)) (by decide) (fun K hK => ?_)
                            refine goes_ Try.func21 (by kernel_rfl) rfl #[.agg #[.int .i64 a0_0, .int .i64 a0_1, .bool a0_2]] (by rfl) rfl rfl (by (try simp only [List.map_toArray, List.map_cons, List.map_nil]); first | done | rfl | (simp only [List.length_drop, List.length_take]; rfl)) ?_
                            with_reducible refine (frac_Frac_Sign.calls kj31 a0_0 a0_1 a0_2 t359 _ A43.out).mono ?_
                            rintro e w82 ⟨rfl, hb⟩
                            refine ⟨_, rfl, ?_⟩
                            have n0_ := Aside0.mk (blk_below (g := gb348) (o := .cells #[.int .i64 a0_0, .int .i64 a0_1, .bool a0_2] 23 (0, 0)) (by (with_reducible repeat (first | refine blk_drewN ?_ _ | refine blk_drew ?_ | refine blk_alloc ?_ _)); exact BK348.out) hb)
                            have n1_ := Aside0.mk (blk_below (g := gb352) (o := .cells #[.int .i64 t349, .int .i64 t350, .bool t351] 23 (0, 0)) (by (with_reducible repeat (first | refine blk_drewN ?_ _ | refine blk_drew ?_ | refine blk_alloc ?_ _)); exact BK352.out) hb)
                            have n2_ := Aside0.mk (blk_below (g := gb358) (o := .cells #[.int .i64 t355, .int .i64 t356, .bool t357] 23 (0, 0)) (by (with_reducible repeat (first | refine blk_drewN ?_ _ | refine blk_drew ?_ | refine blk_alloc ?_ _)); exact BK358.out) hb)
                            have n3_ := Aside0.mk (below_step (by repeat (first | (with_reducible first | exact HB.out | apply below_alloc | apply pw_below_drewN | apply below_drew1 | refine below_set ?_ GE348.out | refine below_set ?_ GE352.out | refine below_set ?_ GE358.out) | exact HB.out)) hb)
                            clear BK348
                            clear BK352
                            clear BK358
                            clear HB
                            have BK348 := n0_
                            have BK352 := n1_
                            have BK358 := n2_
                            have HB := n3_
                            clear n0_ n1_ n2_ n3_
                            (try clear hb)
                            (try clear hb2)
                            (try clear hk)
                            (try clear hi)
                            refine hK.out _ _ ⟨(blk_cell BK348.out 0).trans rfl, (blk_cell BK348.out 1).trans rfl, (blk_cell BK348.out 2).trans rfl, (blk_cell BK358.out 0).trans rfl, (blk_cell BK358.out 1).trans rfl, (blk_cell BK358.out 2).trans rfl⟩ (fun hHeld => ?_)
                            clear hK K
                            refine norm_ (a' := ?_) ?_ ?_
                            rotate_left
                            · show Act.put _ (some 28) _ = _
                              simp only [Act.put, List.setIfInBounds_toArray, List.set_cons_zero, List.set_cons_succ, i64_w, i32_w]
                              rfl
                            refine pure_ (i := 3) (N := some 30) (v := ?_) (a' := ?_) #[true, true, true, true, false, false, false, false, false, false, false, false, false, false, false, false, false, false, false, false, false, false, false, false, false, false, false, false, false, false, false] rfl rfl (any_of HT_.out (by kernel_rfl)) (fun _ _ _ h => h) (Or.inl ⟨by rfl, ?_⟩) ?_ ?_
                            rotate_left
                            · intro w'
                              go_simp
                              with_reducible rfl
                            rotate_left
                            · simp only [Act.put, List.setIfInBounds_toArray, List.set_cons_zero, List.set_cons_succ, i64_w, i32_w]
                              rfl
                            refine pure_ (i := 4) (N := some 31) (v := ?_) (a' := ?_) #[true, true, true, true, true, false, false, false, false, false, false, false, false, false, false, false, false, false, false, false, false, false, false, false, false, false, false, false, false, false, false] rfl rfl (any_of HT_.out (by kernel_rfl)) (fun _ _ _ h => h) (Or.inl ⟨by rfl, ?_⟩) ?_ ?_
                            rotate_left
                            · intro w'
                              go_simp
                              with_reducible rfl
                            rotate_left
                            · simp only [Act.put, List.setIfInBounds_toArray, List.set_cons_zero, List.set_cons_succ, i64_w, i32_w]
                              rfl
                            refine take_ (i := 5) (N := some 32) (v := ?_) (a' := ?_) #[true, true, true, true, true, true, false, false, false, false, false, false, false, false, false, false, false, false, false, false, false, false, false, false, false, false, false, false, false, false, false] rfl rfl (take_ofW HT_.out HW_.out (by kernel_rfl)) (fun _ _ _ h => h) (Or.inl ⟨by rfl, ?_⟩) hHeld ?_ ?_
                            rotate_left
                            · rintro w' ⟨s0, s1, s2, s3, s4, s5⟩
                              go_simp
                              with_reducible rfl
                            rotate_left
                            · simp only [Act.put, List.setIfInBounds_toArray, List.set_cons_zero, List.set_cons_succ, i64_w, i32_w]
                              rfl
                            refine take_ (i := 7) (N := some 34) (v := ?_) (a' := ?_) #[true, true, true, true, true, true, false, true, false, false, false, false, false, false, false, false, false, false, false, false, false, false, false, false, false, false, false, false, false, false, false] rfl rfl (take_ofW HT_.out HW_.out (by kernel_rfl)) (fun _ _ _ h => h) (Or.inl ⟨by rfl, ?_⟩) hHeld ?_ ?_
                            rotate_left
                            · rintro w' ⟨s0, s1, s2, s3, s4, s5⟩
                              go_simp
                              with_reducible rfl
                            rotate_left
                            · simp only [Act.put, List.setIfInBounds_toArray, List.set_cons_zero, List.set_cons_succ, i64_w, i32_w]
                              rfl
                            refine one_ (i := 6) (N := some 33) #[true, true, true, true, true, true, true, true, false, false, false, false, false, false, false, false, false, false, false, false, false, false, false, false, false, false, false, false, false, false, false] rfl rfl (one_of HT_.out (by kernel_rfl)) (by decide) (fun K hK => ?_)
                            refine goes_ Try.func14 (by kernel_rfl) rfl #[.agg #[.int .i64 a0_0, .int .i64 a0_1, .bool a0_2]] (by rfl) rfl rfl (by (try simp only [List.map_toArray, List.map_cons, List.map_nil]); first | done | rfl | (simp only [List.length_drop, List.length_take]; rfl)) ?_
                            with_reducible refine (frac_Frac_Fine.calls kj31 a0_0 a0_1 a0_2 t360 _ A45.out).mono ?_
                            rintro e w83 ⟨rfl, hb⟩
                            refine ⟨_, rfl, ?_⟩
                            have n0_ := Aside0.mk (blk_below (g := gb348) (o := .cells #[.int .i64 a0_0, .int .i64 a0_1, .bool a0_2] 23 (0, 0)) (by (with_reducible repeat (first | refine blk_drewN ?_ _ | refine blk_drew ?_ | refine blk_alloc ?_ _)); exact BK348.out) hb)
                            have n1_ := Aside0.mk (blk_below (g := gb352) (o := .cells #[.int .i64 t349, .int .i64 t350, .bool t351] 23 (0, 0)) (by (with_reducible repeat (first | refine blk_drewN ?_ _ | refine blk_drew ?_ | refine blk_alloc ?_ _)); exact BK352.out) hb)
                            have n2_ := Aside0.mk (blk_below (g := gb358) (o := .cells #[.int .i64 t355, .int .i64 t356, .bool t357] 23 (0, 0)) (by (with_reducible repeat (first | refine blk_drewN ?_ _ | refine blk_drew ?_ | refine blk_alloc ?_ _)); exact BK358.out) hb)
                            have n3_ := Aside0.mk (below_step (by repeat (first | (with_reducible first | exact HB.out | apply below_alloc | apply pw_below_drewN | apply below_drew1 | refine below_set ?_ GE348.out | refine below_set ?_ GE352.out | refine below_set ?_ GE358.out) | exact HB.out)) hb)
                            clear BK348
                            clear BK352
                            clear BK358
                            clear HB
                            have BK348 := n0_
                            have BK352 := n1_
                            have BK358 := n2_
                            have HB := n3_
                            clear n0_ n1_ n2_ n3_
                            (try clear hb)
                            (try clear hb2)
                            (try clear hk)
                            (try clear hi)
                            refine hK.out _ _ ⟨(blk_cell BK348.out 0).trans rfl, (blk_cell BK348.out 1).trans rfl, (blk_cell BK348.out 2).trans rfl, (blk_cell BK358.out 0).trans rfl, (blk_cell BK358.out 1).trans rfl, (blk_cell BK358.out 2).trans rfl⟩ (fun hHeld => ?_)
                            clear hK K
                            refine norm_ (a' := ?_) ?_ ?_
                            rotate_left
                            · show Act.put _ (some 33) _ = _
                              simp only [Act.put, List.setIfInBounds_toArray, List.set_cons_zero, List.set_cons_succ, i64_w, i32_w]
                              rfl
                            refine one_ (i := 8) (N := some 35) #[true, true, true, true, true, true, true, true, true, false, false, false, false, false, false, false, false, false, false, false, false, false, false, false, false, false, false, false, false, false, false] rfl rfl (one_of HT_.out (by kernel_rfl)) (by decide) (fun K hK => ?_)
                            refine goes_ Try.func13 (by kernel_rfl) rfl #[.agg #[.int .i64 a0_0, .int .i64 a0_1, .bool a0_2]] (by rfl) rfl rfl (by (try simp only [List.map_toArray, List.map_cons, List.map_nil]); first | done | rfl | (simp only [List.length_drop, List.length_take]; rfl)) ?_
                            with_reducible refine (coupletlaw04_fine.calls kj31 a0_0 a0_1 a0_2 t361 _ A46.out).mono ?_
                            rintro e w84 ⟨rfl, hb⟩
                            refine ⟨_, rfl, ?_⟩
                            have n0_ := Aside0.mk (blk_below (g := gb348) (o := .cells #[.int .i64 a0_0, .int .i64 a0_1, .bool a0_2] 23 (0, 0)) (by (with_reducible repeat (first | refine blk_drewN ?_ _ | refine blk_drew ?_ | refine blk_alloc ?_ _)); exact BK348.out) hb)
                            have n1_ := Aside0.mk (blk_below (g := gb352) (o := .cells #[.int .i64 t349, .int .i64 t350, .bool t351] 23 (0, 0)) (by (with_reducible repeat (first | refine blk_drewN ?_ _ | refine blk_drew ?_ | refine blk_alloc ?_ _)); exact BK352.out) hb)
                            have n2_ := Aside0.mk (blk_below (g := gb358) (o := .cells #[.int .i64 t355, .int .i64 t356, .bool t357] 23 (0, 0)) (by (with_reducible repeat (first | refine blk_drewN ?_ _ | refine blk_drew ?_ | refine blk_alloc ?_ _)); exact BK358.out) hb)
                            have n3_ := Aside0.mk (below_step (by repeat (first | (with_reducible first | exact HB.out | apply below_alloc | apply pw_below_drewN | apply below_drew1 | refine below_set ?_ GE348.out | refine below_set ?_ GE352.out | refine below_set ?_ GE358.out) | exact HB.out)) hb)
                            clear BK348
                            clear BK352
                            clear BK358
                            clear HB
                            have BK348 := n0_
                            have BK352 := n1_
                            have BK358 := n2_
                            have HB := n3_
                            clear n0_ n1_ n2_ n3_
                            (try clear hb)
                            (try clear hb2)
                            (try clear hk)
                            (try clear hi)
                            refine hK.out _ _ ⟨(blk_cell BK348.out 0).trans rfl, (blk_cell BK348.out 1).trans rfl, (blk_cell BK348.out 2).trans rfl, (blk_cell BK358.out 0).trans rfl, (blk_cell BK358.out 1).trans rfl, (blk_cell BK358.out 2).trans rfl⟩ (fun hHeld => ?_)
                            clear hK K
                            refine norm_ (a' := ?_) ?_ ?_
                            rotate_left
                            · show Act.put _ (some 35) _ = _
                              simp only [Act.put, List.setIfInBounds_toArray, List.set_cons_zero, List.set_cons_succ, i64_w, i32_w]
                              rfl
                            refine pure_ (i := 9) (N := some 36) (v := ?_) (a' := ?_) #[true, true, true, true, true, true, true, true, true, true, false, false, false, false, false, false, false, false, false, false, false, false, false, false, false, false, false, false, false, false, false] rfl rfl (any_of HT_.out (by kernel_rfl)) (fun _ _ _ h => h) (Or.inl ⟨by rfl, ?_⟩) ?_ ?_
                            rotate_left
                            · intro w'
                              go_simp
                              with_reducible rfl
                            rotate_left
                            · simp only [Act.put, List.setIfInBounds_toArray, List.set_cons_zero, List.set_cons_succ, i64_w, i32_w]
                              rfl
                            refine pure_ (i := 10) (N := some 37) (v := ?_) (a' := ?_) #[true, true, true, true, true, true, true, true, true, true, true, false, false, false, false, false, false, false, false, false, false, false, false, false, false, false, false, false, false, false, false] rfl rfl (any_of HT_.out (by kernel_rfl)) (fun _ _ _ h => h) (Or.inl ⟨by rfl, ?_⟩) ?_ ?_
                            rotate_left
                            · intro w'
                              go_simp
                              with_reducible rfl
                            rotate_left
                            · simp only [Act.put, List.setIfInBounds_toArray, List.set_cons_zero, List.set_cons_succ, i64_w, i32_w]
                              rfl
                            refine pure_ (i := 11) (N := some 38) (v := ?_) (a' := ?_) #[true, true, true, true, true, true, true, true, true, true, true, true, false, false, false, false, false, false, false, false, false, false, false, false, false, false, false, false, false, false, false] rfl rfl (any_of HT_.out (by kernel_rfl)) (fun _ _ _ h => h) (Or.inl ⟨by rfl, ?_⟩) ?_ ?_
                            rotate_left
                            · intro w'
                              go_simp
                              with_reducible rfl
                            rotate_left
                            · simp only [Act.put, List.setIfInBounds_toArray, List.set_cons_zero, List.set_cons_succ, i64_w, i32_w]
                              rfl
                            refine pure_ (i := 12) (N := some 39) (v := ?_) (a' := ?_) #[true, true, true, true, true, true, true, true, true, true, true, true, true, false, false, false, false, false, false, false, false, false, false, false, false, false, false, false, false, false, false] rfl rfl (any_of HT_.out (by kernel_rfl)) (fun _ _ _ h => h) (Or.inl ⟨by rfl, ?_⟩) ?_ ?_
                            rotate_left
                            · intro w'
                              go_simp
                              with_reducible rfl
                            rotate_left
                            · simp only [Act.put, List.setIfInBounds_toArray, List.set_cons_zero, List.set_cons_succ, i64_w, i32_w]
                              rfl
                            refine one_ (i := 13) (N := some 40) #[true, true, true, true, true, true, true, true, true, true, true, true, true, true, false, false, false, false, false, false, false, false, false, false, false, false, false, false, false, false, false] rfl rfl (one_of HT_.out (by kernel_rfl)) (by decide) (fun K hK => ?_)
                            refine goes_ Try.func16 (by kernel_rfl) rfl #[.int .i64 a1] (by rfl) rfl rfl (by (try simp only [List.map_toArray, List.map_cons, List.map_nil]); first | done | rfl | (simp only [List.length_drop, List.length_take]; rfl)) ?_
                            with_reducible refine (coupletlaw04_small.calls a1 false _ A53.out).mono ?_
                            rintro e w' ⟨rfl, ⟨nd, rfl⟩⟩
                            refine ⟨_, rfl, ?_⟩
                            refine hK.out _ _ ⟨(blk_cell BK348.out 0).trans rfl, (blk_cell BK348.out 1).trans rfl, (blk_cell BK348.out 2).trans rfl, (blk_cell BK358.out 0).trans rfl, (blk_cell BK358.out 1).trans rfl, (blk_cell BK358.out 2).trans rfl⟩ (fun hHeld => ?_)
                            clear hK K
                            refine norm_ (a' := ?_) ?_ ?_
                            rotate_left
                            · show Act.put _ (some 40) _ = _
                              simp only [Act.put, List.setIfInBounds_toArray, List.set_cons_zero, List.set_cons_succ, i64_w, i32_w]
                              rfl
                            refine pure_ (i := 14) (N := some 41) (v := ?_) (a' := ?_) #[true, true, true, true, true, true, true, true, true, true, true, true, true, true, true, false, false, false, false, false, false, false, false, false, false, false, false, false, false, false, false] rfl rfl (any_of HT_.out (by kernel_rfl)) (fun _ _ _ h => h) (Or.inl ⟨by rfl, ?_⟩) ?_ ?_
                            rotate_left
                            · intro w'
                              go_simp
                              with_reducible rfl
                            rotate_left
                            · simp only [Act.put, List.setIfInBounds_toArray, List.set_cons_zero, List.set_cons_succ, i64_w, i32_w]
                              rfl
                            refine pure_ (i := 15) (N := some 42) (v := undef) (a' := ?_) #[true, true, true, true, true, true, true, true, true, true, true, true, true, true, true, true, false, false, false, false, false, false, false, false, false, false, false, false, false, false, false] rfl rfl (any_of HT_.out (by kernel_rfl)) (fun _ _ _ h => h) (Or.inr ⟨by rfl, rfl⟩) ?_ ?_
                            rotate_left
                            · simp only [Act.put, List.setIfInBounds_toArray, List.set_cons_zero, List.set_cons_succ, i64_w, i32_w]
                              rfl
                            refine pure_ (i := 16) (N := some 43) (v := undef) (a' := ?_) #[true, true, true, true, true, true, true, true, true, true, true, true, true, true, true, true, true, false, false, false, false, false, false, false, false, false, false, false, false, false, false] rfl rfl (any_of HT_.out (by kernel_rfl)) (fun _ _ _ h => h) (Or.inr ⟨by rfl, rfl⟩) ?_ ?_
                            rotate_left
                            · simp only [Act.put, List.setIfInBounds_toArray, List.set_cons_zero, List.set_cons_succ, i64_w, i32_w]
                              rfl
                            refine pure_ (i := 17) (N := some 44) (v := undef) (a' := ?_) #[true, true, true, true, true, true, true, true, true, true, true, true, true, true, true, true, true, true, false, false, false, false, false, false, false, false, false, false, false, false, false] rfl rfl (any_of HT_.out (by kernel_rfl)) (fun _ _ _ h => h) (Or.inr ⟨by rfl, rfl⟩) ?_ ?_
                            rotate_left
                            · simp only [Act.put, List.setIfInBounds_toArray, List.set_cons_zero, List.set_cons_succ, i64_w, i32_w]
                              rfl
                            refine pure_ (i := 18) (N := some 45) (v := undef) (a' := ?_) #[true, true, true, true, true, true, true, true, true, true, true, true, true, true, true, true, true, true, true, false, false, false, false, false, false, false, false, false, false, false, false] rfl rfl (any_of HT_.out (by kernel_rfl)) (fun _ _ _ h => h) (Or.inr ⟨by rfl, rfl⟩) ?_ ?_
                            rotate_left
                            · simp only [Act.put, List.setIfInBounds_toArray, List.set_cons_zero, List.set_cons_succ, i64_w, i32_w]
                              rfl
                            refine pure_ (i := 19) (N := some 46) (v := ?_) (a' := ?_) #[true, true, true, true, true, true, true, true, true, true, true, true, true, true, true, true, true, true, true, true, false, false, false, false, false, false, false, false, false, false, false] rfl rfl (any_of HT_.out (by kernel_rfl)) (fun _ _ _ h => h) (Or.inl ⟨by rfl, ?_⟩) ?_ ?_
                            rotate_left
                            · intro w'
                              go_simp
                              with_reducible rfl
                            rotate_left
                            · simp only [Act.put, List.setIfInBounds_toArray, List.set_cons_zero, List.set_cons_succ, i64_w, i32_w]
                              rfl
                            refine pure_ (i := 20) (N := some 47) (v := ?_) (a' := ?_) #[true, true, true, true, true, true, true, true, true, true, true, true, true, true, true, true, true, true, true, true, true, false, false, false, false, false, false, false, false, false, false] rfl rfl (any_of HT_.out (by kernel_rfl)) (fun _ _ _ h => h) (Or.inl ⟨by rfl, ?_⟩) ?_ ?_
                            rotate_left
                            · intro w'
                              go_simp
                              with_reducible rfl
                            rotate_left
                            · simp only [Act.put, List.setIfInBounds_toArray, List.set_cons_zero, List.set_cons_succ, i64_w, i32_w]
                              rfl
                            refine pure_ (i := 21) (N := some 48) (v := ?_) (a' := ?_) #[true, true, true, true, true, true, true, true, true, true, true, true, true, true, true, true, true, true, true, true, true, true, false, false, false, false, false, false, false, false, false] rfl rfl (any_of HT_.out (by kernel_rfl)) (fun _ _ _ h => h) (Or.inl ⟨by rfl, ?_⟩) ?_ ?_
                            rotate_left
                            · intro w'
                              go_simp
                              with_reducible rfl
                            rotate_left
                            · simp only [Act.put, List.setIfInBounds_toArray, List.set_cons_zero, List.set_cons_succ, i64_w, i32_w]
                              rfl
                            refine pure_ (i := 22) (N := some 49) (v := ?_) (a' := ?_) #[true, true, true, true, true, true, true, true, true, true, true, true, true, true, true, true, true, true, true, true, true, true, true, false, false, false, false, false, false, false, false] rfl rfl (any_of HT_.out (by kernel_rfl)) (fun _ _ _ h => h) (Or.inl ⟨by rfl, ?_⟩) ?_ ?_
                            rotate_left
                            · intro w'
                              go_simp
                              with_reducible rfl
                            rotate_left
                            · simp only [Act.put, List.setIfInBounds_toArray, List.set_cons_zero, List.set_cons_succ, i64_w, i32_w]
                              rfl
                            refine one_ (i := 23) (N := some 50) #[true, true, true, true, true, true, true, true, true, true, true, true, true, true, true, true, true, true, true, true, true, true, true, true, false, false, false, false, false, false, false] rfl rfl (one_of HT_.out (by kernel_rfl)) (by decide) (fun K hK => ?_)
                            refine goes_ Try.func16 (by kernel_rfl) rfl #[.int .i64 a1] (by rfl) rfl rfl (by (try simp only [List.map_toArray, List.map_cons, List.map_nil]); first | done | rfl | (simp only [List.length_drop, List.length_take]; rfl)) ?_
                            with_reducible refine (coupletlaw04_small.calls a1 false _ A73.out).mono ?_
                            rintro e w' ⟨rfl, ⟨nd, rfl⟩⟩
                            refine ⟨_, rfl, ?_⟩
                            refine hK.out _ _ ⟨(blk_cell BK348.out 0).trans rfl, (blk_cell BK348.out 1).trans rfl, (blk_cell BK348.out 2).trans rfl, (blk_cell BK358.out 0).trans rfl, (blk_cell BK358.out 1).trans rfl, (blk_cell BK358.out 2).trans rfl⟩ (fun hHeld => ?_)
                            clear hK K
                            refine norm_ (a' := ?_) ?_ ?_
                            rotate_left
                            · show Act.put _ (some 50) _ = _
                              simp only [Act.put, List.setIfInBounds_toArray, List.set_cons_zero, List.set_cons_succ, i64_w, i32_w]
                              rfl
                            refine pure_ (i := 24) (N := some 51) (v := ?_) (a' := ?_) #[true, true, true, true, true, true, true, true, true, true, true, true, true, true, true, true, true, true, true, true, true, true, true, true, true, false, false, false, false, false, false] rfl rfl (any_of HT_.out (by kernel_rfl)) (fun _ _ _ h => h) (Or.inl ⟨by rfl, ?_⟩) ?_ ?_
                            rotate_left
                            · intro w'
                              go_simp
                              with_reducible rfl
                            rotate_left
                            · simp only [Act.put, List.setIfInBounds_toArray, List.set_cons_zero, List.set_cons_succ, i64_w, i32_w]
                              rfl
                            refine pure_ (i := 25) (N := some 52) (v := ?_) (a' := ?_) #[true, true, true, true, true, true, true, true, true, true, true, true, true, true, true, true, true, true, true, true, true, true, true, true, true, true, false, false, false, false, false] rfl rfl (any_of HT_.out (by kernel_rfl)) (fun _ _ _ h => h) (Or.inl ⟨by rfl, ?_⟩) ?_ ?_
                            rotate_left
                            · intro w'
                              go_simp
                              with_reducible rfl
                            rotate_left
                            · simp only [Act.put, List.setIfInBounds_toArray, List.set_cons_zero, List.set_cons_succ, i64_w, i32_w]
                              rfl
                            refine pure_ (i := 26) (N := some 53) (v := ?_) (a' := ?_) #[true, true, true, true, true, true, true, true, true, true, true, true, true, true, true, true, true, true, true, true, true, true, true, true, true, true, true, false, false, false, false] rfl rfl (any_of HT_.out (by kernel_rfl)) (fun _ _ _ h => h) (Or.inl ⟨by rfl, ?_⟩) ?_ ?_
                            rotate_left
                            · intro w'
                              go_simp
                              with_reducible rfl
                            rotate_left
                            · simp only [Act.put, List.setIfInBounds_toArray, List.set_cons_zero, List.set_cons_succ, i64_w, i32_w]
                              rfl
                            refine take_ (i := 27) (N := some 54) (v := ?_) (a' := ?_) #[true, true, true, true, true, true, true, true, true, true, true, true, true, true, true, true, true, true, true, true, true, true, true, true, true, true, true, true, false, false, false] rfl rfl (take_ofW HT_.out HW_.out (by kernel_rfl)) (fun _ _ _ h => h) (Or.inl ⟨by rfl, ?_⟩) hHeld ?_ ?_
                            rotate_left
                            · rintro w' ⟨s0, s1, s2, s3, s4, s5⟩
                              go_simp
                              with_reducible rfl
                            rotate_left
                            · simp only [Act.put, List.setIfInBounds_toArray, List.set_cons_zero, List.set_cons_succ, i64_w, i32_w]
                              rfl
                            refine pure_ (i := 28) (N := some 55) (v := ?_) (a' := ?_) #[true, true, true, true, true, true, true, true, true, true, true, true, true, true, true, true, true, true, true, true, true, true, true, true, true, true, true, true, true, false, false] rfl rfl (any_of HT_.out (by kernel_rfl)) (fun _ _ _ h => h) (Or.inl ⟨by rfl, ?_⟩) ?_ ?_
                            rotate_left
                            · intro w'
                              go_simp
                              with_reducible rfl
                            rotate_left
                            · simp only [Act.put, List.setIfInBounds_toArray, List.set_cons_zero, List.set_cons_succ, i64_w, i32_w]
                              rfl
                            refine pure_ (i := 29) (N := some 56) (v := ?_) (a' := ?_) #[true, true, true, true, true, true, true, true, true, true, true, true, true, true, true, true, true, true, true, true, true, true, true, true, true, true, true, true, true, true, false] rfl rfl (any_of HT_.out (by kernel_rfl)) (fun _ _ _ h => h) (Or.inl ⟨by rfl, ?_⟩) ?_ ?_
                            rotate_left
                            · intro w'
                              go_simp
                              with_reducible rfl
                            rotate_left
                            · simp only [Act.put, List.setIfInBounds_toArray, List.set_cons_zero, List.set_cons_succ, i64_w, i32_w]
                              rfl
                            refine pure_ (i := 30) (N := some 57) (v := ?_) (a' := ?_) #[true, true, true, true, true, true, true, true, true, true, true, true, true, true, true, true, true, true, true, true, true, true, true, true, true, true, true, true, true, true, true] rfl rfl (any_of HT_.out (by kernel_rfl)) (fun _ _ _ h => h) (Or.inl ⟨by rfl, ?_⟩) ?_ ?_
                            rotate_left
                            · intro w'
                              go_simp
                              with_reducible rfl
                            rotate_left
                            · simp only [Act.put, List.setIfInBounds_toArray, List.set_cons_zero, List.set_cons_succ, i64_w, i32_w]
                              rfl
                            refine done_ (done_of HT_.out (by kernel_rfl)) ?_
                            try go_wp2
                            go_meet
                            case rel => exact ⟨_, (!t357), (by first | rfl | (simp; done) | (simp [*]; done)), H', ⟨by have := HJ3.out; have := HJ19.out; have := HJ21.out; have := HJ31.out; first | omega | exact Nat.le_refl _⟩, ⟨by (with_reducible repeat (first | refine blk_drewN ?_ _ | refine blk_drew ?_ | refine blk_alloc ?_ _)); exact BK348.out⟩, ⟨by (with_reducible repeat (first | refine blk_drewN ?_ _ | refine blk_drew ?_ | refine blk_alloc ?_ _)); exact BK352.out⟩, ⟨by (with_reducible repeat (first | refine blk_drewN ?_ _ | refine blk_drew ?_ | refine blk_alloc ?_ _)); exact BK358.out⟩, ⟨by repeat (first | (with_reducible first | exact HB.out | apply below_alloc | apply pw_below_drewN | apply below_drew1 | refine below_set ?_ GE348.out | refine below_set ?_ GE352.out | refine below_set ?_ GE358.out) | exact HB.out)⟩⟩
                    · rw [if_neg c44] at H
                      have c44b0 : (t359 == x6_31) = false := beq_eq_false_iff_ne.mpr c44
                      have c44b1 : (t359 != x6_31) = true := bne_iff_ne.mpr c44
                      (first | rw [c44b0] | (simp only [i64_w, i32_w]; rw [c44b0]) | skip)
                      have H' := Aside0.mk H
                      clear H
                      try go_wp2
                      have n0_ : Aside0 ((((w39.setCell ⟨gb358, 0, none⟩ (.int .i64 t355)).setCell ⟨gb358, 1, none⟩ (.int .i64 t356)).setCell ⟨gb358, 2, none⟩ (.bool t357)).heap[gb348]? = some (.cells #[.int .i64 a0_0, .int .i64 a0_1, .bool a0_2] 23 (0, 0))) := ⟨by (with_reducible repeat (first | refine blk_drewN ?_ _ | refine blk_drew ?_ | refine blk_alloc ?_ _)); refine blk_far ?_ NB348_358.out _; (with_reducible repeat (first | refine blk_drewN ?_ _ | refine blk_drew ?_ | refine blk_alloc ?_ _)); refine blk_far ?_ NB348_358.out _; (with_reducible repeat (first | refine blk_drewN ?_ _ | refine blk_drew ?_ | refine blk_alloc ?_ _)); refine blk_far ?_ NB348_358.out _; (with_reducible repeat (first | refine blk_drewN ?_ _ | refine blk_drew ?_ | refine blk_alloc ?_ _)); exact BK348.out⟩
                      have n1_ : Aside0 ((((w39.setCell ⟨gb358, 0, none⟩ (.int .i64 t355)).setCell ⟨gb358, 1, none⟩ (.int .i64 t356)).setCell ⟨gb358, 2, none⟩ (.bool t357)).heap[gb352]? = some (.cells #[.int .i64 t349, .int .i64 t350, .bool t351] 23 (0, 0))) := ⟨by (with_reducible repeat (first | refine blk_drewN ?_ _ | refine blk_drew ?_ | refine blk_alloc ?_ _)); refine blk_far ?_ NB352_358.out _; (with_reducible repeat (first | refine blk_drewN ?_ _ | refine blk_drew ?_ | refine blk_alloc ?_ _)); refine blk_far ?_ NB352_358.out _; (with_reducible repeat (first | refine blk_drewN ?_ _ | refine blk_drew ?_ | refine blk_alloc ?_ _)); refine blk_far ?_ NB352_358.out _; (with_reducible repeat (first | refine blk_drewN ?_ _ | refine blk_drew ?_ | refine blk_alloc ?_ _)); exact BK352.out⟩
                      have n2_ : Aside0 ((((w39.setCell ⟨gb358, 0, none⟩ (.int .i64 t355)).setCell ⟨gb358, 1, none⟩ (.int .i64 t356)).setCell ⟨gb358, 2, none⟩ (.bool t357)).heap[gb358]? = some (.cells #[.int .i64 t355, .int .i64 t356, .bool t357] 23 (0, 0))) := ⟨by (with_reducible repeat (first | refine blk_drewN ?_ _ | refine blk_drew ?_ | refine blk_alloc ?_ _)); refine blk_put (cs := #[.int .i64 t355, .int .i64 t356, .bool false]) ?_ 2 _ rfl; (with_reducible repeat (first | refine blk_drewN ?_ _ | refine blk_drew ?_ | refine blk_alloc ?_ _)); refine blk_put (cs := #[.int .i64 t355, .int .i64 0, .bool false]) ?_ 1 _ rfl; (with_reducible repeat (first | refine blk_drewN ?_ _ | refine blk_drew ?_ | refine blk_alloc ?_ _)); refine blk_put (cs := #[.int .i64 0, .int .i64 0, .bool false]) ?_ 0 _ rfl; (with_reducible repeat (first | refine blk_drewN ?_ _ | refine blk_drew ?_ | refine blk_alloc ?_ _)); exact BK358.out⟩
                      have n3_ : Aside0 (Below w.heap.size w (((w39.setCell ⟨gb358, 0, none⟩ (.int .i64 t355)).setCell ⟨gb358, 1, none⟩ (.int .i64 t356)).setCell ⟨gb358, 2, none⟩ (.bool t357))) := ⟨by repeat (first | (with_reducible first | exact HB.out | apply below_alloc | apply pw_below_drewN | apply below_drew1 | refine below_set ?_ GE348.out | refine below_set ?_ GE352.out | refine below_set ?_ GE358.out) | exact HB.out)⟩
                      (try clear BK348)
                      (try clear BK352)
                      (try clear BK358)
                      (try clear HB)
                      generalize (((w39.setCell ⟨gb358, 0, none⟩ (.int .i64 t355)).setCell ⟨gb358, 1, none⟩ (.int .i64 t356)).setCell ⟨gb358, 2, none⟩ (.bool t357)) = w85 at n0_ n1_ n2_ n3_ ⊢
                      have BK348 := n0_
                      have BK352 := n1_
                      have BK358 := n2_
                      have HB := n3_
                      clear n0_ n1_ n2_ n3_
                      have n0_ := Aside0.mk (blk_drew BK348.out)
                      have n1_ := Aside0.mk (blk_drew BK352.out)
                      have n2_ := Aside0.mk (blk_drew BK358.out)
                      have n3_ := Aside0.mk (below_drew1 HB.out)
                      clear BK348
                      clear BK352
                      clear BK358
                      clear HB
                      have BK348 := n0_
                      have BK352 := n1_
                      have BK358 := n2_
                      have HB := n3_
                      clear n0_ n1_ n2_ n3_
                      refine start_ (n := 31) (S := fun w' => w'.cell? ⟨gb348, 0, none⟩ = some (.int .i64 a0_0) ∧ w'.cell? ⟨gb348, 1, none⟩ = some (.int .i64 a0_1) ∧ w'.cell? ⟨gb348, 2, none⟩ = some (.bool a0_2)) (ds := []) #[false, false, false, false, false, false, false, false, false, false, false, false, false, false, false, false, false, false, false, false, false, false, false, false, false, false, false, false, false, false, false] (by kernel_rfl) rfl rfl ⟨(blk_cell BK348.out 0).trans rfl, (blk_cell BK348.out 1).trans rfl, (blk_cell BK348.out 2).trans rfl⟩ (fun hHeld => ?_); refine with_tabW coupletlaw04_FracRoots.tab8 coupletlaw04_FracRoots.bits8 (fun HT_ HW_ => ?_)
                      generalize w85.drew = w86 at BK348 BK352 BK358 HB hHeld ⊢
                      refine pure_ (i := 2) (N := some 29) (v := ?_) (a' := ?_) #[false, false, true, false, false, false, false, false, false, false, false, false, false, false, false, false, false, false, false, false, false, false, false, false, false, false, false, false, false, false, false] rfl rfl (any_of HT_.out (by kernel_rfl)) (fun _ _ _ h => h) (Or.inl ⟨by rfl, ?_⟩) ?_ ?_
                      rotate_left
                      · intro w'
                        go_simp
                        with_reducible rfl
                      rotate_left
                      · simp only [Act.put, List.setIfInBounds_toArray, List.set_cons_zero, List.set_cons_succ, i64_w, i32_w]
                        rfl
                      refine take_ (i := 0) (N := some 27) (v := ?_) (a' := ?_) #[true, false, true, false, false, false, false, false, false, false, false, false, false, false, false, false, false, false, false, false, false, false, false, false, false, false, false, false, false, false, false] rfl rfl (take_ofW HT_.out HW_.out (by kernel_rfl)) (fun _ _ _ h => h) (Or.inl ⟨by rfl, ?_⟩) hHeld ?_ ?_
                      rotate_left
                      · rintro w' ⟨s0, s1, s2⟩
                        go_simp
                        with_reducible rfl
                      rotate_left
                      · simp only [Act.put, List.setIfInBounds_toArray, List.set_cons_zero, List.set_cons_succ, i64_w, i32_w]
                        rfl
                      refine one_ (i := 1) (N := some 28) #[true, true, true, false, false, false, false, false, false, false, false, false, false, false, false, false, false, false, false, false, false, false, false, false, false, false, false, false, false, false, false] rfl rfl (one_of HT_.out (by kernel_rfl)) (by decide) (fun K hK => ?_)
                      refine goes_ Try.func21 (by kernel_rfl) rfl #[.agg #[.int .i64 a0_0, .int .i64 a0_1, .bool a0_2]] (by rfl) rfl rfl (by (try simp only [List.map_toArray, List.map_cons, List.map_nil]); first | done | rfl | (simp only [List.length_drop, List.length_take]; rfl)) ?_
                      with_reducible refine (frac_Frac_Sign.calls kj31 a0_0 a0_1 a0_2 t359 _ A43.out).mono ?_
                      rintro e w87 ⟨rfl, hb⟩
                      refine ⟨_, rfl, ?_⟩
                      have n0_ := Aside0.mk (blk_below (g := gb348) (o := .cells #[.int .i64 a0_0, .int .i64 a0_1, .bool a0_2] 23 (0, 0)) (by (with_reducible repeat (first | refine blk_drewN ?_ _ | refine blk_drew ?_ | refine blk_alloc ?_ _)); exact BK348.out) hb)
                      have n1_ := Aside0.mk (blk_below (g := gb352) (o := .cells #[.int .i64 t349, .int .i64 t350, .bool t351] 23 (0, 0)) (by (with_reducible repeat (first | refine blk_drewN ?_ _ | refine blk_drew ?_ | refine blk_alloc ?_ _)); exact BK352.out) hb)
                      have n2_ := Aside0.mk (blk_below (g := gb358) (o := .cells #[.int .i64 t355, .int .i64 t356, .bool t357] 23 (0, 0)) (by (with_reducible repeat (first | refine blk_drewN ?_ _ | refine blk_drew ?_ | refine blk_alloc ?_ _)); exact BK358.out) hb)
                      have n3_ := Aside0.mk (below_step (by repeat (first | (with_reducible first | exact HB.out | apply below_alloc | apply pw_below_drewN | apply below_drew1 | refine below_set ?_ GE348.out | refine below_set ?_ GE352.out | refine below_set ?_ GE358.out) | exact HB.out)) hb)
                      clear BK348
                      clear BK352
                      clear BK358
                      clear HB
                      have BK348 := n0_
                      have BK352 := n1_
                      have BK358 := n2_
                      have HB := n3_
                      clear n0_ n1_ n2_ n3_
                      (try clear hb)
                      (try clear hb2)
                      (try clear hk)
                      (try clear hi)
                      refine hK.out _ _ ⟨(blk_cell BK348.out 0).trans rfl, (blk_cell BK348.out 1).trans rfl, (blk_cell BK348.out 2).trans rfl⟩ (fun hHeld => ?_)
                      clear hK K
                      refine norm_ (a' := ?_) ?_ ?_
                      rotate_left
                      · show Act.put _ (some 28) _ = _
                        simp only [Act.put, List.setIfInBounds_toArray, List.set_cons_zero, List.set_cons_succ, i64_w, i32_w]
                        rfl
                      refine pure_ (i := 3) (N := some 30) (v := ?_) (a' := ?_) #[true, true, true, true, false, false, false, false, false, false, false, false, false, false, false, false, false, false, false, false, false, false, false, false, false, false, false, false, false, false, false] rfl rfl (any_of HT_.out (by kernel_rfl)) (fun _ _ _ h => h) (Or.inl ⟨by rfl, ?_⟩) ?_ ?_
                      rotate_left
                      · intro w'
                        go_simp
                        with_reducible rfl
                      rotate_left
                      · simp only [Act.put, List.setIfInBounds_toArray, List.set_cons_zero, List.set_cons_succ, i64_w, i32_w]
                        rfl
                      refine pure_ (i := 4) (N := some 31) (v := ?_) (a' := ?_) #[true, true, true, true, true, false, false, false, false, false, false, false, false, false, false, false, false, false, false, false, false, false, false, false, false, false, false, false, false, false, false] rfl rfl (any_of HT_.out (by kernel_rfl)) (fun _ _ _ h => h) (Or.inl ⟨by rfl, ?_⟩) ?_ ?_
                      rotate_left
                      · intro w'
                        go_simp
                        with_reducible rfl
                      rotate_left
                      · simp only [Act.put, List.setIfInBounds_toArray, List.set_cons_zero, List.set_cons_succ, i64_w, i32_w]
                        rfl
                      refine pure_ (i := 5) (N := some 32) (v := undef) (a' := ?_) #[true, true, true, true, true, true, false, false, false, false, false, false, false, false, false, false, false, false, false, false, false, false, false, false, false, false, false, false, false, false, false] rfl rfl (any_of HT_.out (by kernel_rfl)) (fun _ _ _ h => h) (Or.inr ⟨by rfl, rfl⟩) ?_ ?_
                      rotate_left
                      · simp only [Act.put, List.setIfInBounds_toArray, List.set_cons_zero, List.set_cons_succ, i64_w, i32_w]
                        rfl
                      refine pure_ (i := 6) (N := some 33) (v := undef) (a' := ?_) #[true, true, true, true, true, true, true, false, false, false, false, false, false, false, false, false, false, false, false, false, false, false, false, false, false, false, false, false, false, false, false] rfl rfl (any_of HT_.out (by kernel_rfl)) (fun _ _ _ h => h) (Or.inr ⟨by rfl, rfl⟩) ?_ ?_
                      rotate_left
                      · simp only [Act.put, List.setIfInBounds_toArray, List.set_cons_zero, List.set_cons_succ, i64_w, i32_w]
                        rfl
                      refine pure_ (i := 7) (N := some 34) (v := undef) (a' := ?_) #[true, true, true, true, true, true, true, true, false, false, false, false, false, false, false, false, false, false, false, false, false, false, false, false, false, false, false, false, false, false, false] rfl rfl (any_of HT_.out (by kernel_rfl)) (fun _ _ _ h => h) (Or.inr ⟨by rfl, rfl⟩) ?_ ?_
                      rotate_left
                      · simp only [Act.put, List.setIfInBounds_toArray, List.set_cons_zero, List.set_cons_succ, i64_w, i32_w]
                        rfl
                      refine pure_ (i := 8) (N := some 35) (v := undef) (a' := ?_) #[true, true, true, true, true, true, true, true, true, false, false, false, false, false, false, false, false, false, false, false, false, false, false, false, false, false, false, false, false, false, false] rfl rfl (any_of HT_.out (by kernel_rfl)) (fun _ _ _ h => h) (Or.inr ⟨by rfl, rfl⟩) ?_ ?_
                      rotate_left
                      · simp only [Act.put, List.setIfInBounds_toArray, List.set_cons_zero, List.set_cons_succ, i64_w, i32_w]
                        rfl
                      refine pure_ (i := 9) (N := some 36) (v := undef) (a' := ?_) #[true, true, true, true, true, true, true, true, true, true, false, false, false, false, false, false, false, false, false, false, false, false, false, false, false, false, false, false, false, false, false] rfl rfl (any_of HT_.out (by kernel_rfl)) (fun _ _ _ h => h) (Or.inr ⟨by rfl, rfl⟩) ?_ ?_
                      rotate_left
                      · simp only [Act.put, List.setIfInBounds_toArray, List.set_cons_zero, List.set_cons_succ, i64_w, i32_w]
                        rfl
                      refine pure_ (i := 10) (N := some 37) (v := ?_) (a' := ?_) #[true, true, true, true, true, true, true, true, true, true, true, false, false, false, false, false, false, false, false, false, false, false, false, false, false, false, false, false, false, false, false] rfl rfl (any_of HT_.out (by kernel_rfl)) (fun _ _ _ h => h) (Or.inl ⟨by rfl, ?_⟩) ?_ ?_
                      rotate_left
                      · intro w'
                        go_simp
                        with_reducible rfl
                      rotate_left
                      · simp only [Act.put, List.setIfInBounds_toArray, List.set_cons_zero, List.set_cons_succ, i64_w, i32_w]
                        rfl
                      refine pure_ (i := 11) (N := some 38) (v := ?_) (a' := ?_) #[true, true, true, true, true, true, true, true, true, true, true, true, false, false, false, false, false, false, false, false, false, false, false, false, false, false, false, false, false, false, false] rfl rfl (any_of HT_.out (by kernel_rfl)) (fun _ _ _ h => h) (Or.inl ⟨by rfl, ?_⟩) ?_ ?_
                      rotate_left
                      · intro w'
                        go_simp
                        with_reducible rfl
                      rotate_left
                      · simp only [Act.put, List.setIfInBounds_toArray, List.set_cons_zero, List.set_cons_succ, i64_w, i32_w]
                        rfl
                      refine pure_ (i := 12) (N := some 39) (v := undef) (a' := ?_) #[true, true, true, true, true, true, true, true, true, true, true, true, true, false, false, false, false, false, false, false, false, false, false, false, false, false, false, false, false, false, false] rfl rfl (any_of HT_.out (by kernel_rfl)) (fun _ _ _ h => h) (Or.inr ⟨by rfl, rfl⟩) ?_ ?_
                      rotate_left
                      · simp only [Act.put, List.setIfInBounds_toArray, List.set_cons_zero, List.set_cons_succ, i64_w, i32_w]
                        rfl
                      refine pure_ (i := 13) (N := some 40) (v := undef) (a' := ?_) #[true, true, true, true, true, true, true, true, true, true, true, true, true, true, false, false, false, false, false, false, false, false, false, false, false, false, false, false, false, false, false] rfl rfl (any_of HT_.out (by kernel_rfl)) (fun _ _ _ h => h) (Or.inr ⟨by rfl, rfl⟩) ?_ ?_
                      rotate_left
                      · simp only [Act.put, List.setIfInBounds_toArray, List.set_cons_zero, List.set_cons_succ, i64_w, i32_w]
                        rfl
                      refine pure_ (i := 14) (N := some 41) (v := undef) (a' := ?_) #[true, true, true, true, true, true, true, true, true, true, true, true, true, true, true, false, false, false, false, false, false, false, false, false, false, false, false, false, false, false, false] rfl rfl (any_of HT_.out (by kernel_rfl)) (fun _ _ _ h => h) (Or.inr ⟨by rfl, rfl⟩) ?_ ?_
                      rotate_left
                      · simp only [Act.put, List.setIfInBounds_toArray, List.set_cons_zero, List.set_cons_succ, i64_w, i32_w]
                        rfl
                      refine pure_ (i := 15) (N := some 42) (v := undef) (a' := ?_) #[true, true, true, true, true, true, true, true, true, true, true, true, true, true, true, true, false, false, false, false, false, false, false, false, false, false, false, false, false, false, false] rfl rfl (any_of HT_.out (by kernel_rfl)) (fun _ _ _ h => h) (Or.inr ⟨by rfl, rfl⟩) ?_ ?_
                      rotate_left
                      · simp only [Act.put, List.setIfInBounds_toArray, List.set_cons_zero, List.set_cons_succ, i64_w, i32_w]
                        rfl
                      refine pure_ (i := 16) (N := some 43) (v := undef) (a' := ?_) #[true, true, true, true, true, true, true, true, true, true, true, true, true, true, true, true, true, false, false, false, false, false, false, false, false, false, false, false, false, false, false] rfl rfl (any_of HT_.out (by kernel_rfl)) (fun _ _ _ h => h) (Or.inr ⟨by rfl, rfl⟩) ?_ ?_
                      rotate_left
                      · simp only [Act.put, List.setIfInBounds_toArray, List.set_cons_zero, List.set_cons_succ, i64_w, i32_w]
                        rfl
                      refine pure_ (i := 17) (N := some 44) (v := undef) (a' := ?_) #[true, true, true, true, true, true, true, true, true, true, true, true, true, true, true, true, true, true, false, false, false, false, false, false, false, false, false, false, false, false, false] rfl rfl (any_of HT_.out (by kernel_rfl)) (fun _ _ _ h => h) (Or.inr ⟨by rfl, rfl⟩) ?_ ?_
                      rotate_left
                      · simp only [Act.put, List.setIfInBounds_toArray, List.set_cons_zero, List.set_cons_succ, i64_w, i32_w]
                        rfl
                      refine pure_ (i := 18) (N := some 45) (v := undef) (a' := ?_) #[true, true, true, true, true, true, true, true, true, true, true, true, true, true, true, true, true, true, true, false, false, false, false, false, false, false, false, false, false, false, false] rfl rfl (any_of HT_.out (by kernel_rfl)) (fun _ _ _ h => h) (Or.inr ⟨by rfl, rfl⟩) ?_ ?_
                      rotate_left
                      · simp only [Act.put, List.setIfInBounds_toArray, List.set_cons_zero, List.set_cons_succ, i64_w, i32_w]
                        rfl
                      refine pure_ (i := 19) (N := some 46) (v := undef) (a' := ?_) #[true, true, true, true, true, true, true, true, true, true, true, true, true, true, true, true, true, true, true, true, false, false, false, false, false, false, false, false, false, false, false] rfl rfl (any_of HT_.out (by kernel_rfl)) (fun _ _ _ h => h) (Or.inr ⟨by rfl, rfl⟩) ?_ ?_
                      rotate_left
                      · simp only [Act.put, List.setIfInBounds_toArray, List.set_cons_zero, List.set_cons_succ, i64_w, i32_w]
                        rfl
                      refine pure_ (i := 20) (N := some 47) (v := ?_) (a' := ?_) #[true, true, true, true, true, true, true, true, true, true, true, true, true, true, true, true, true, true, true, true, true, false, false, false, false, false, false, false, false, false, false] rfl rfl (any_of HT_.out (by kernel_rfl)) (fun _ _ _ h => h) (Or.inl ⟨by rfl, ?_⟩) ?_ ?_
                      rotate_left
                      · intro w'
                        go_simp
                        with_reducible rfl
                      rotate_left
                      · simp only [Act.put, List.setIfInBounds_toArray, List.set_cons_zero, List.set_cons_succ, i64_w, i32_w]
                        rfl
                      refine pure_ (i := 21) (N := some 48) (v := ?_) (a' := ?_) #[true, true, true, true, true, true, true, true, true, true, true, true, true, true, true, true, true, true, true, true, true, true, false, false, false, false, false, false, false, false, false] rfl rfl (any_of HT_.out (by kernel_rfl)) (fun _ _ _ h => h) (Or.inl ⟨by rfl, ?_⟩) ?_ ?_
                      rotate_left
                      · intro w'
                        go_simp
                        with_reducible rfl
                      rotate_left
                      · simp only [Act.put, List.setIfInBounds_toArray, List.set_cons_zero, List.set_cons_succ, i64_w, i32_w]
                        rfl
                      refine pure_ (i := 22) (N := some 49) (v := undef) (a' := ?_) #[true, true, true, true, true, true, true, true, true, true, true, true, true, true, true, true, true, true, true, true, true, true, true, false, false, false, false, false, false, false, false] rfl rfl (any_of HT_.out (by kernel_rfl)) (fun _ _ _ h => h) (Or.inr ⟨by rfl, rfl⟩) ?_ ?_
                      rotate_left
                      · simp only [Act.put, List.setIfInBounds_toArray, List.set_cons_zero, List.set_cons_succ, i64_w, i32_w]
                        rfl
                      refine pure_ (i := 23) (N := some 50) (v := undef) (a' := ?_) #[true, true, true, true, true, true, true, true, true, true, true, true, true, true, true, true, true, true, true, true, true, true, true, true, false, false, false, false, false, false, false] rfl rfl (any_of HT_.out (by kernel_rfl)) (fun _ _ _ h => h) (Or.inr ⟨by rfl, rfl⟩) ?_ ?_
                      rotate_left
                      · simp only [Act.put, List.setIfInBounds_toArray, List.set_cons_zero, List.set_cons_succ, i64_w, i32_w]
                        rfl
                      refine pure_ (i := 24) (N := some 51) (v := undef) (a' := ?_) #[true, true, true, true, true, true, true, true, true, true, true, true, true, true, true, true, true, true, true, true, true, true, true, true, true, false, false, false, false, false, false] rfl rfl (any_of HT_.out (by kernel_rfl)) (fun _ _ _ h => h) (Or.inr ⟨by rfl, rfl⟩) ?_ ?_
                      rotate_left
                      · simp only [Act.put, List.setIfInBounds_toArray, List.set_cons_zero, List.set_cons_succ, i64_w, i32_w]
                        rfl
                      refine pure_ (i := 25) (N := some 52) (v := undef) (a' := ?_) #[true, true, true, true, true, true, true, true, true, true, true, true, true, true, true, true, true, true, true, true, true, true, true, true, true, true, false, false, false, false, false] rfl rfl (any_of HT_.out (by kernel_rfl)) (fun _ _ _ h => h) (Or.inr ⟨by rfl, rfl⟩) ?_ ?_
                      rotate_left
                      · simp only [Act.put, List.setIfInBounds_toArray, List.set_cons_zero, List.set_cons_succ, i64_w, i32_w]
                        rfl
                      refine pure_ (i := 26) (N := some 53) (v := undef) (a' := ?_) #[true, true, true, true, true, true, true, true, true, true, true, true, true, true, true, true, true, true, true, true, true, true, true, true, true, true, true, false, false, false, false] rfl rfl (any_of HT_.out (by kernel_rfl)) (fun _ _ _ h => h) (Or.inr ⟨by rfl, rfl⟩) ?_ ?_
                      rotate_left
                      · simp only [Act.put, List.setIfInBounds_toArray, List.set_cons_zero, List.set_cons_succ, i64_w, i32_w]
                        rfl
                      refine pure_ (i := 27) (N := some 54) (v := undef) (a' := ?_) #[true, true, true, true, true, true, true, true, true, true, true, true, true, true, true, true, true, true, true, true, true, true, true, true, true, true, true, true, false, false, false] rfl rfl (any_of HT_.out (by kernel_rfl)) (fun _ _ _ h => h) (Or.inr ⟨by rfl, rfl⟩) ?_ ?_
                      rotate_left
                      · simp only [Act.put, List.setIfInBounds_toArray, List.set_cons_zero, List.set_cons_succ, i64_w, i32_w]
                        rfl
                      refine pure_ (i := 28) (N := some 55) (v := undef) (a' := ?_) #[true, true, true, true, true, true, true, true, true, true, true, true, true, true, true, true, true, true, true, true, true, true, true, true, true, true, true, true, true, false, false] rfl rfl (any_of HT_.out (by kernel_rfl)) (fun _ _ _ h => h) (Or.inr ⟨by rfl, rfl⟩) ?_ ?_
                      rotate_left
                      · simp only [Act.put, List.setIfInBounds_toArray, List.set_cons_zero, List.set_cons_succ, i64_w, i32_w]
                        rfl
                      refine pure_ (i := 29) (N := some 56) (v := undef) (a' := ?_) #[true, true, true, true, true, true, true, true, true, true, true, true, true, true, true, true, true, true, true, true, true, true, true, true, true, true, true, true, true, true, false] rfl rfl (any_of HT_.out (by kernel_rfl)) (fun _ _ _ h => h) (Or.inr ⟨by rfl, rfl⟩) ?_ ?_
                      rotate_left
                      · simp only [Act.put, List.setIfInBounds_toArray, List.set_cons_zero, List.set_cons_succ, i64_w, i32_w]
                        rfl
                      refine pure_ (i := 30) (N := some 57) (v := ?_) (a' := ?_) #[true, true, true, true, true, true, true, true, true, true, true, true, true, true, true, true, true, true, true, true, true, true, true, true, true, true, true, true, true, true, true] rfl rfl (any_of HT_.out (by kernel_rfl)) (fun _ _ _ h => h) (Or.inl ⟨by rfl, ?_⟩) ?_ ?_
                      rotate_left
                      · intro w'
                        go_simp
                        with_reducible rfl
                      rotate_left
                      · simp only [Act.put, List.setIfInBounds_toArray, List.set_cons_zero, List.set_cons_succ, i64_w, i32_w]
                        rfl
                      refine done_ (done_of HT_.out (by kernel_rfl)) ?_
                      try go_wp2
                      go_meet
                      case rel => exact ⟨_, (true), (by first | rfl | (simp; done) | (simp [*]; done)), H', ⟨by have := HJ3.out; have := HJ19.out; have := HJ21.out; have := HJ31.out; first | omega | exact Nat.le_refl _⟩, ⟨by (with_reducible repeat (first | refine blk_drewN ?_ _ | refine blk_drew ?_ | refine blk_alloc ?_ _)); exact BK348.out⟩, ⟨by (with_reducible repeat (first | refine blk_drewN ?_ _ | refine blk_drew ?_ | refine blk_alloc ?_ _)); exact BK352.out⟩, ⟨by (with_reducible repeat (first | refine blk_drewN ?_ _ | refine blk_drew ?_ | refine blk_alloc ?_ _)); exact BK358.out⟩, ⟨by repeat (first | (with_reducible first | exact HB.out | apply below_alloc | apply pw_below_drewN | apply below_drew1 | refine below_set ?_ GE348.out | refine below_set ?_ GE352.out | refine below_set ?_ GE358.out) | exact HB.out)⟩⟩
                  case rest =>
                    clear HC35
                    try clear c1
                    try clear c2
                    try clear p2
                    try clear c4
                    try clear c7
                    try clear c13
                    try clear c14
                    try clear c16
                    try clear c21
                    try clear c44
                    try clear c44b0
                    try clear c44b1
                    try clear c74
                    obtain ⟨kq, x57_34, rfl, HA, HJ34, BK348, BK352, BK358, HB⟩ := hcut
                    cases kq with
                    | zero => exact absurd HA.out (by simp [coupletlaw04_FracRoots.j4])
                    | succ kj34 =>
                      have H := HA.out
                      clear HA
                      simp only [coupletlaw04_FracRoots.j4] at H
                      by_cases c88 : x57_34 = true
                      · subst c88
                        have H1 : (some false) = some r := by rw [if_pos rfl] at H; exact H
                        clear H
                        have H := H1
                        clear H1
                        obtain rfl := Option.some.inj H
                        exact absurd hr (by decide)
                      · replace c88 := Bool.eq_false_iff.mpr c88
                        subst c88
                        have H1 : ((coupletlaw04_fine.f kj34 a0_0 a0_1 a0_2).bind fun t365 => (if t365 = true then (if a0_0 < 0 then (coupletlaw04_FracRoots.j5 kj34 true a0_0 a0_1 a0_2 t349 t350 t351) else ((coupletref04_Square.f kj34 a0_0).bind fun t366 => (if t366 < 0 then (coupletlaw04_FracRoots.j5 kj34 true a0_0 a0_1 a0_2 t349 t350 t351) else ((coupletref04_Square.f kj34 a0_1).bind fun t367 => (coupletlaw04_FracRoots.j5 kj34 (decide (t367 < 0)) a0_0 a0_1 a0_2 t349 t350 t351))))) else (coupletlaw04_FracRoots.j5 kj34 true a0_0 a0_1 a0_2 t349 t350 t351))) = some r := by rw [if_neg (show ¬ (false = true) by decide)] at H; exact H
                        clear H
                        have H := H1
                        clear H1
                        have HC89 := Aside0.mk H
                        clear H
                        go_upto_region 10 with (fail)
                        go_cut [77] (fun v77 wc => ∃ (kq : Nat) (x77_88 : Bool), v77 = .bool x77_88 ∧ Aside0 (coupletlaw04_FracRoots.j5 kq x77_88 a0_0 a0_1 a0_2 t349 t350 t351 = some r) ∧ Aside0 (kq ≤ kj34) ∧ Aside0 (wc.heap[gb348]? = some (.cells #[.int .i64 a0_0, .int .i64 a0_1, .bool a0_2] 23 (0, 0))) ∧ Aside0 (wc.heap[gb352]? = some (.cells #[.int .i64 t349, .int .i64 t350, .bool t351] 23 (0, 0))) ∧ Aside0 (wc.heap[gb358]? = some (.cells #[.int .i64 t355, .int .i64 t356, .bool t357] 23 (0, 0))) ∧ Aside0 (Below w.heap.size w wc))
                        case first =>
                          have H := HC89.out
                          clear HC89
                          replace H := Option.bind_eq_some_iff.mp H
                          obtain ⟨t365, A900, H⟩ := H
                          replace H : (if t365 = true then (if a0_0 < 0 then (coupletlaw04_FracRoots.j5 kj34 true a0_0 a0_1 a0_2 t349 t350 t351) else ((coupletref04_Square.f kj34 a0_0).bind fun t366 => (if t366 < 0 then (coupletlaw04_FracRoots.j5 kj34 true a0_0 a0_1 a0_2 t349 t350 t351) else ((coupletref04_Square.f kj34 a0_1).bind fun t367 => (coupletlaw04_FracRoots.j5 kj34 (decide (t367 < 0)) a0_0 a0_1 a0_2 t349 t350 t351))))) else (coupletlaw04_FracRoots.j5 kj34 true a0_0 a0_1 a0_2 t349 t350 t351)) = some r := H
                          have A90 := Aside0.mk A900
                          clear A900
                          by_cases c91 : t365 = true
                          · subst c91
                            have H1 : (if a0_0 < 0 then (coupletlaw04_FracRoots.j5 kj34 true a0_0 a0_1 a0_2 t349 t350 t351) else ((coupletref04_Square.f kj34 a0_0).bind fun t366 => (if t366 < 0 then (coupletlaw04_FracRoots.j5 kj34 true a0_0 a0_1 a0_2 t349 t350 t351) else ((coupletref04_Square.f kj34 a0_1).bind fun t367 => (coupletlaw04_FracRoots.j5 kj34 (decide (t367 < 0)) a0_0 a0_1 a0_2 t349 t350 t351))))) = some r := by rw [if_pos rfl] at H; exact H
                            clear H
                            have H := H1
                            clear H1
                            by_cases c92 : a0_0 < 0
                            · rw [if_pos c92] at H
                              have c92b0 : decide (a0_0 < 0) = true := decide_eq_true c92
                              clear c92
                              (first | rw [c92b0] | (simp only [i64_w, i32_w]; rw [c92b0]) | skip)
                              have H' := Aside0.mk H
                              clear H
                              have hnb93 := NB348_352.out
                              have hnc93 := NB352_348.out
                              have hnb94 := NB348_358.out
                              have hnc94 := NB358_348.out
                              have hcz95_0 : wc.cell? ⟨gb348, 0, none⟩ = some (.int .i64 a0_0) := (blk_cell BK348.out 0).trans rfl
                              have hcz95_1 : wc.cell? ⟨gb348, 1, none⟩ = some (.int .i64 a0_1) := (blk_cell BK348.out 1).trans rfl
                              have hcz95_2 : wc.cell? ⟨gb348, 2, none⟩ = some (.bool a0_2) := (blk_cell BK348.out 2).trans rfl
                              have hfz95_0 := blk_frozen BK348.out 0
                              have hfz95_1 := blk_frozen BK348.out 1
                              have hfz95_2 := blk_frozen BK348.out 2
                              go_wp2_with (first | ((with_reducible refine gate_callee (f := 13) rfl ?_); refine goesL_ (some 59) rfl rfl Try.func13 (by kernel_rfl) rfl #[.agg #[.int .i64 a0_0, .int .i64 a0_1, .bool a0_2]] rfl (by (try simp only [List.map_toArray, List.map_cons, List.map_nil]); first | done | rfl | (simp only [List.length_drop, List.length_take]; rfl)) ?_; (with_reducible refine (coupletlaw04_fine.calls kj34 a0_0 a0_1 a0_2 true _ A90.out).mono ?_); rintro e w96 ⟨rfl, hb⟩; refine ⟨_, rfl, ?_⟩; have n0_ := Aside0.mk (blk_below (g := gb348) (o := .cells #[.int .i64 a0_0, .int .i64 a0_1, .bool a0_2] 23 (0, 0)) (by (with_reducible repeat (first | refine blk_drewN ?_ _ | refine blk_drew ?_ | refine blk_alloc ?_ _)); exact BK348.out) hb); have n1_ := Aside0.mk (blk_below (g := gb352) (o := .cells #[.int .i64 t349, .int .i64 t350, .bool t351] 23 (0, 0)) (by (with_reducible repeat (first | refine blk_drewN ?_ _ | refine blk_drew ?_ | refine blk_alloc ?_ _)); exact BK352.out) hb); have n2_ := Aside0.mk (blk_below (g := gb358) (o := .cells #[.int .i64 t355, .int .i64 t356, .bool t357] 23 (0, 0)) (by (with_reducible repeat (first | refine blk_drewN ?_ _ | refine blk_drew ?_ | refine blk_alloc ?_ _)); exact BK358.out) hb); have n3_ := Aside0.mk (below_step (by repeat (first | (with_reducible first | exact HB.out | apply below_alloc | apply pw_below_drewN | apply below_drew1 | refine below_set ?_ GE348.out | refine below_set ?_ GE352.out | refine below_set ?_ GE358.out) | exact HB.out)) hb); clear BK348; clear BK352; clear BK358; clear HB; have BK348 := n0_; have BK352 := n1_; have BK358 := n2_; have HB := n3_; clear n0_ n1_ n2_ n3_; (try clear hb); (try clear hb2); (try clear hk); (try clear hi); have hcz97_0 : w96.cell? ⟨gb348, 0, none⟩ = some (.int .i64 a0_0) := (blk_cell BK348.out 0).trans rfl; have hcz97_1 : w96.cell? ⟨gb348, 1, none⟩ = some (.int .i64 a0_1) := (blk_cell BK348.out 1).trans rfl; have hcz97_2 : w96.cell? ⟨gb348, 2, none⟩ = some (.bool a0_2) := (blk_cell BK348.out 2).trans rfl; have hfz97_0 := blk_frozen BK348.out 0; have hfz97_1 := blk_frozen BK348.out 1; have hfz97_2 := blk_frozen BK348.out 2))
                              go_meet
                              case rel => exact ⟨_, (true), (by first | rfl | (simp; done) | (simp [*]; done)), H', ⟨by have := HJ3.out; have := HJ19.out; have := HJ21.out; have := HJ31.out; have := HJ34.out; first | omega | exact Nat.le_refl _⟩, ⟨by (with_reducible repeat (first | refine blk_drewN ?_ _ | refine blk_drew ?_ | refine blk_alloc ?_ _)); exact BK348.out⟩, ⟨by (with_reducible repeat (first | refine blk_drewN ?_ _ | refine blk_drew ?_ | refine blk_alloc ?_ _)); exact BK352.out⟩, ⟨by (with_reducible repeat (first | refine blk_drewN ?_ _ | refine blk_drew ?_ | refine blk_alloc ?_ _)); exact BK358.out⟩, ⟨by repeat (first | (with_reducible first | exact HB.out | apply below_alloc | apply pw_below_drewN | apply below_drew1 | refine below_set ?_ GE348.out | refine below_set ?_ GE352.out | refine below_set ?_ GE358.out) | exact HB.out)⟩⟩
                            · rw [if_neg c92] at H
                              have c92b0 : decide (a0_0 < 0) = false := decide_eq_false c92
                              clear c92
                              (first | rw [c92b0] | (simp only [i64_w, i32_w]; rw [c92b0]) | skip)
                              replace H := Option.bind_eq_some_iff.mp H
                              obtain ⟨t366, A980, H⟩ := H
                              replace H : (if t366 < 0 then (coupletlaw04_FracRoots.j5 kj34 true a0_0 a0_1 a0_2 t349 t350 t351) else ((coupletref04_Square.f kj34 a0_1).bind fun t367 => (coupletlaw04_FracRoots.j5 kj34 (decide (t367 < 0)) a0_0 a0_1 a0_2 t349 t350 t351))) = some r := H
                              have A98 := Aside0.mk A980
                              clear A980
                              by_cases c99 : t366 < 0
                              · rw [if_pos c99] at H
                                have c99b0 : decide (t366 < 0) = true := decide_eq_true c99
                                clear c99
                                have H' := Aside0.mk H
                                clear H
                                have hnb100 := NB348_352.out
                                have hnc100 := NB352_348.out
                                have hnb101 := NB348_358.out
                                have hnc101 := NB358_348.out
                                have hcz102_0 : wc.cell? ⟨gb348, 0, none⟩ = some (.int .i64 a0_0) := (blk_cell BK348.out 0).trans rfl
                                have hcz102_1 : wc.cell? ⟨gb348, 1, none⟩ = some (.int .i64 a0_1) := (blk_cell BK348.out 1).trans rfl
                                have hcz102_2 : wc.cell? ⟨gb348, 2, none⟩ = some (.bool a0_2) := (blk_cell BK348.out 2).trans rfl
                                have hfz102_0 := blk_frozen BK348.out 0
                                have hfz102_1 := blk_frozen BK348.out 1
                                have hfz102_2 := blk_frozen BK348.out 2
                                go_wp2_with (first | ((with_reducible refine gate_callee (f := 13) rfl ?_); refine goesL_ (some 59) rfl rfl Try.func13 (by kernel_rfl) rfl #[.agg #[.int .i64 a0_0, .int .i64 a0_1, .bool a0_2]] rfl (by (try simp only [List.map_toArray, List.map_cons, List.map_nil]); first | done | rfl | (simp only [List.length_drop, List.length_take]; rfl)) ?_; (with_reducible refine (coupletlaw04_fine.calls kj34 a0_0 a0_1 a0_2 true _ A90.out).mono ?_); rintro e w103 ⟨rfl, hb⟩; refine ⟨_, rfl, ?_⟩; have n0_ := Aside0.mk (blk_below (g := gb348) (o := .cells #[.int .i64 a0_0, .int .i64 a0_1, .bool a0_2] 23 (0, 0)) (by (with_reducible repeat (first | refine blk_drewN ?_ _ | refine blk_drew ?_ | refine blk_alloc ?_ _)); exact BK348.out) hb); have n1_ := Aside0.mk (blk_below (g := gb352) (o := .cells #[.int .i64 t349, .int .i64 t350, .bool t351] 23 (0, 0)) (by (with_reducible repeat (first | refine blk_drewN ?_ _ | refine blk_drew ?_ | refine blk_alloc ?_ _)); exact BK352.out) hb); have n2_ := Aside0.mk (blk_below (g := gb358) (o := .cells #[.int .i64 t355, .int .i64 t356, .bool t357] 23 (0, 0)) (by (with_reducible repeat (first | refine blk_drewN ?_ _ | refine blk_drew ?_ | refine blk_alloc ?_ _)); exact BK358.out) hb); have n3_ := Aside0.mk (below_step (by repeat (first | (with_reducible first | exact HB.out | apply below_alloc | apply pw_below_drewN | apply below_drew1 | refine below_set ?_ GE348.out | refine below_set ?_ GE352.out | refine below_set ?_ GE358.out) | exact HB.out)) hb); clear BK348; clear BK352; clear BK358; clear HB; have BK348 := n0_; have BK352 := n1_; have BK358 := n2_; have HB := n3_; clear n0_ n1_ n2_ n3_; (try clear hb); (try clear hb2); (try clear hk); (try clear hi); have hcz104_0 : w103.cell? ⟨gb348, 0, none⟩ = some (.int .i64 a0_0) := (blk_cell BK348.out 0).trans rfl; have hcz104_1 : w103.cell? ⟨gb348, 1, none⟩ = some (.int .i64 a0_1) := (blk_cell BK348.out 1).trans rfl; have hcz104_2 : w103.cell? ⟨gb348, 2, none⟩ = some (.bool a0_2) := (blk_cell BK348.out 2).trans rfl; have hfz104_0 := blk_frozen BK348.out 0; have hfz104_1 := blk_frozen BK348.out 1; have hfz104_2 := blk_frozen BK348.out 2) | (go_at_call 22; (with_reducible refine (coupletref04_Square.calls kj34 a0_0 t366 _ A98.out).mono ?_); rintro e w' ⟨rfl, ⟨nd, rfl⟩⟩))
                                go_meet
                                case rel => exact ⟨_, (true), (by first | rfl | (simp; done) | (simp [*]; done)), H', ⟨by have := HJ3.out; have := HJ19.out; have := HJ21.out; have := HJ31.out; have := HJ34.out; first | omega | exact Nat.le_refl _⟩, ⟨by (with_reducible repeat (first | refine blk_drewN ?_ _ | refine blk_drew ?_ | refine blk_alloc ?_ _)); exact BK348.out⟩, ⟨by (with_reducible repeat (first | refine blk_drewN ?_ _ | refine blk_drew ?_ | refine blk_alloc ?_ _)); exact BK352.out⟩, ⟨by (with_reducible repeat (first | refine blk_drewN ?_ _ | refine blk_drew ?_ | refine blk_alloc ?_ _)); exact BK358.out⟩, ⟨by repeat (first | (with_reducible first | exact HB.out | apply below_alloc | apply pw_below_drewN | apply below_drew1 | refine below_set ?_ GE348.out | refine below_set ?_ GE352.out | refine below_set ?_ GE358.out) | exact HB.out)⟩⟩
                              · rw [if_neg c99] at H
                                have c99b0 : decide (t366 < 0) = false := decide_eq_false c99
                                clear c99
                                replace H := Option.bind_eq_some_iff.mp H
                                obtain ⟨t367, A1050, H⟩ := H
                                replace H : (coupletlaw04_FracRoots.j5 kj34 (decide (t367 < 0)) a0_0 a0_1 a0_2 t349 t350 t351) = some r := H
                                have A105 := Aside0.mk A1050
                                clear A1050
                                have H' := Aside0.mk H
                                clear H
                                have hnb106 := NB348_352.out
                                have hnc106 := NB352_348.out
                                have hnb107 := NB348_358.out
                                have hnc107 := NB358_348.out
                                have hcz108_0 : wc.cell? ⟨gb348, 0, none⟩ = some (.int .i64 a0_0) := (blk_cell BK348.out 0).trans rfl
                                have hcz108_1 : wc.cell? ⟨gb348, 1, none⟩ = some (.int .i64 a0_1) := (blk_cell BK348.out 1).trans rfl
                                have hcz108_2 : wc.cell? ⟨gb348, 2, none⟩ = some (.bool a0_2) := (blk_cell BK348.out 2).trans rfl
                                have hfz108_0 := blk_frozen BK348.out 0
                                have hfz108_1 := blk_frozen BK348.out 1
                                have hfz108_2 := blk_frozen BK348.out 2
                                go_wp2_with (first | ((with_reducible refine gate_callee (f := 13) rfl ?_); refine goesL_ (some 59) rfl rfl Try.func13 (by kernel_rfl) rfl #[.agg #[.int .i64 a0_0, .int .i64 a0_1, .bool a0_2]] rfl (by (try simp only [List.map_toArray, List.map_cons, List.map_nil]); first | done | rfl | (simp only [List.length_drop, List.length_take]; rfl)) ?_; (with_reducible refine (coupletlaw04_fine.calls kj34 a0_0 a0_1 a0_2 true _ A90.out).mono ?_); rintro e w109 ⟨rfl, hb⟩; refine ⟨_, rfl, ?_⟩; have n0_ := Aside0.mk (blk_below (g := gb348) (o := .cells #[.int .i64 a0_0, .int .i64 a0_1, .bool a0_2] 23 (0, 0)) (by (with_reducible repeat (first | refine blk_drewN ?_ _ | refine blk_drew ?_ | refine blk_alloc ?_ _)); exact BK348.out) hb); have n1_ := Aside0.mk (blk_below (g := gb352) (o := .cells #[.int .i64 t349, .int .i64 t350, .bool t351] 23 (0, 0)) (by (with_reducible repeat (first | refine blk_drewN ?_ _ | refine blk_drew ?_ | refine blk_alloc ?_ _)); exact BK352.out) hb); have n2_ := Aside0.mk (blk_below (g := gb358) (o := .cells #[.int .i64 t355, .int .i64 t356, .bool t357] 23 (0, 0)) (by (with_reducible repeat (first | refine blk_drewN ?_ _ | refine blk_drew ?_ | refine blk_alloc ?_ _)); exact BK358.out) hb); have n3_ := Aside0.mk (below_step (by repeat (first | (with_reducible first | exact HB.out | apply below_alloc | apply pw_below_drewN | apply below_drew1 | refine below_set ?_ GE348.out | refine below_set ?_ GE352.out | refine below_set ?_ GE358.out) | exact HB.out)) hb); clear BK348; clear BK352; clear BK358; clear HB; have BK348 := n0_; have BK352 := n1_; have BK358 := n2_; have HB := n3_; clear n0_ n1_ n2_ n3_; (try clear hb); (try clear hb2); (try clear hk); (try clear hi); have hcz110_0 : w109.cell? ⟨gb348, 0, none⟩ = some (.int .i64 a0_0) := (blk_cell BK348.out 0).trans rfl; have hcz110_1 : w109.cell? ⟨gb348, 1, none⟩ = some (.int .i64 a0_1) := (blk_cell BK348.out 1).trans rfl; have hcz110_2 : w109.cell? ⟨gb348, 2, none⟩ = some (.bool a0_2) := (blk_cell BK348.out 2).trans rfl; have hfz110_0 := blk_frozen BK348.out 0; have hfz110_1 := blk_frozen BK348.out 1; have hfz110_2 := blk_frozen BK348.out 2) | (go_at_call 22; (with_reducible refine (coupletref04_Square.calls kj34 a0_0 t366 _ A98.out).mono ?_); rintro e w' ⟨rfl, ⟨nd, rfl⟩⟩) | (go_at_call 22; (with_reducible refine (coupletref04_Square.calls kj34 a0_1 t367 _ A105.out).mono ?_); rintro e w' ⟨rfl, ⟨nd, rfl⟩⟩))
                                go_meet
                                case rel => exact ⟨_, (decide (t367 < 0)), (by first | rfl | (simp; done) | (simp [*]; done)), H', ⟨by have := HJ3.out; have := HJ19.out; have := HJ21.out; have := HJ31.out; have := HJ34.out; first | omega | exact Nat.le_refl _⟩, ⟨by (with_reducible repeat (first | refine blk_drewN ?_ _ | refine blk_drew ?_ | refine blk_alloc ?_ _)); exact BK348.out⟩, ⟨by (with_reducible repeat (first | refine blk_drewN ?_ _ | refine blk_drew ?_ | refine blk_alloc ?_ _)); exact BK352.out⟩, ⟨by (with_reducible repeat (first | refine blk_drewN ?_ _ | refine blk_drew ?_ | refine blk_alloc ?_ _)); exact BK358.out⟩, ⟨by repeat (first | (with_reducible first | exact HB.out | apply below_alloc | apply pw_below_drewN | apply below_drew1 | refine below_set ?_ GE348.out | refine below_set ?_ GE352.out | refine below_set ?_ GE358.out) | exact HB.out)⟩⟩
                          · replace c91 := Bool.eq_false_iff.mpr c91
                            subst c91
                            have H1 : (coupletlaw04_FracRoots.j5 kj34 true a0_0 a0_1 a0_2 t349 t350 t351) = some r := by rw [if_neg (show ¬ (false = true) by decide)] at H; exact H
                            clear H
                            have H := H1
                            clear H1
                            have H' := Aside0.mk H
                            clear H
                            have hnb111 := NB348_352.out
                            have hnc111 := NB352_348.out
                            have hnb112 := NB348_358.out
                            have hnc112 := NB358_348.out
                            have hcz113_0 : wc.cell? ⟨gb348, 0, none⟩ = some (.int .i64 a0_0) := (blk_cell BK348.out 0).trans rfl
                            have hcz113_1 : wc.cell? ⟨gb348, 1, none⟩ = some (.int .i64 a0_1) := (blk_cell BK348.out 1).trans rfl
                            have hcz113_2 : wc.cell? ⟨gb348, 2, none⟩ = some (.bool a0_2) := (blk_cell BK348.out 2).trans rfl
                            have hfz113_0 := blk_frozen BK348.out 0
                            have hfz113_1 := blk_frozen BK348.out 1
                            have hfz113_2 := blk_frozen BK348.out 2
                            go_wp2_with (first | ((with_reducible refine gate_callee (f := 13) rfl ?_); refine goesL_ (some 59) rfl rfl Try.func13 (by kernel_rfl) rfl #[.agg #[.int .i64 a0_0, .int .i64 a0_1, .bool a0_2]] rfl (by (try simp only [List.map_toArray, List.map_cons, List.map_nil]); first | done | rfl | (simp only [List.length_drop, List.length_take]; rfl)) ?_; (with_reducible refine (coupletlaw04_fine.calls kj34 a0_0 a0_1 a0_2 false _ A90.out).mono ?_); rintro e w114 ⟨rfl, hb⟩; refine ⟨_, rfl, ?_⟩; have n0_ := Aside0.mk (blk_below (g := gb348) (o := .cells #[.int .i64 a0_0, .int .i64 a0_1, .bool a0_2] 23 (0, 0)) (by (with_reducible repeat (first | refine blk_drewN ?_ _ | refine blk_drew ?_ | refine blk_alloc ?_ _)); exact BK348.out) hb); have n1_ := Aside0.mk (blk_below (g := gb352) (o := .cells #[.int .i64 t349, .int .i64 t350, .bool t351] 23 (0, 0)) (by (with_reducible repeat (first | refine blk_drewN ?_ _ | refine blk_drew ?_ | refine blk_alloc ?_ _)); exact BK352.out) hb); have n2_ := Aside0.mk (blk_below (g := gb358) (o := .cells #[.int .i64 t355, .int .i64 t356, .bool t357] 23 (0, 0)) (by (with_reducible repeat (first | refine blk_drewN ?_ _ | refine blk_drew ?_ | refine blk_alloc ?_ _)); exact BK358.out) hb); have n3_ := Aside0.mk (below_step (by repeat (first | (with_reducible first | exact HB.out | apply below_alloc | apply pw_below_drewN | apply below_drew1 | refine below_set ?_ GE348.out | refine below_set ?_ GE352.out | refine below_set ?_ GE358.out) | exact HB.out)) hb); clear BK348; clear BK352; clear BK358; clear HB; have BK348 := n0_; have BK352 := n1_; have BK358 := n2_; have HB := n3_; clear n0_ n1_ n2_ n3_; (try clear hb); (try clear hb2); (try clear hk); (try clear hi)))
                            go_meet
                            case rel => exact ⟨_, (true), (by first | rfl | (simp; done) | (simp [*]; done)), H', ⟨by have := HJ3.out; have := HJ19.out; have := HJ21.out; have := HJ31.out; have := HJ34.out; first | omega | exact Nat.le_refl _⟩, ⟨by (with_reducible repeat (first | refine blk_drewN ?_ _ | refine blk_drew ?_ | refine blk_alloc ?_ _)); exact BK348.out⟩, ⟨by (with_reducible repeat (first | refine blk_drewN ?_ _ | refine blk_drew ?_ | refine blk_alloc ?_ _)); exact BK352.out⟩, ⟨by (with_reducible repeat (first | refine blk_drewN ?_ _ | refine blk_drew ?_ | refine blk_alloc ?_ _)); exact BK358.out⟩, ⟨by repeat (first | (with_reducible first | exact HB.out | apply below_alloc | apply pw_below_drewN | apply below_drew1 | refine below_set ?_ GE348.out | refine below_set ?_ GE352.out | refine below_set ?_ GE358.out) | exact HB.out)⟩⟩
                        case rest =>
                          clear HC89
                          try clear c1
                          try clear c2
                          try clear p2
                          try clear c4
                          try clear c7
                          try clear c8
                          try clear c9
                          try clear c10
                          try clear c11
                          try clear c13
                          try clear c14
                          try clear c16
                          try clear c21
                          try clear c44
                          try clear c44b0
                          try clear c44b1
                          try clear c74
                          try clear c88
                          try clear c91
                          try clear c92
                          try clear c92b0
                          try clear c93
                          try clear c94
                          try clear c99
                          try clear c99b0
                          try clear c100
                          try clear c101
                          try clear c106
                          try clear c107
                          try clear c111
                          try clear c112
                          try clear hcz102_0
                          try clear hcz102_1
                          try clear hcz102_2
                          try clear hcz104_0
                          try clear hcz104_1
                          try clear hcz104_2
                          try clear hcz108_0
                          try clear hcz108_1
                          try clear hcz108_2
                          try clear hcz110_0
                          try clear hcz110_1
                          try clear hcz110_2
                          try clear hcz113_0
                          try clear hcz113_1
                          try clear hcz113_2
                          try clear hcz95_0
                          try clear hcz95_1
                          try clear hcz95_2
                          try clear hcz97_0
                          try clear hcz97_1
                          try clear hcz97_2
                          try clear hfz102_0
                          try clear hfz102_1
                          try clear hfz102_2
                          try clear hfz104_0
                          try clear hfz104_1
                          try clear hfz104_2
                          try clear hfz108_0
                          try clear hfz108_1
                          try clear hfz108_2
                          try clear hfz110_0
                          try clear hfz110_1
                          try clear hfz110_2
                          try clear hfz113_0
                          try clear hfz113_1
                          try clear hfz113_2
                          try clear hfz95_0
                          try clear hfz95_1
                          try clear hfz95_2
                          try clear hfz97_0
                          try clear hfz97_1
                          try clear hfz97_2
                          try clear p2
                          obtain ⟨kq, x77_88, rfl, HA, HJ88, BK348, BK352, BK358, HB⟩ := hcut
                          cases kq with
                          | zero => exact absurd HA.out (by simp [coupletlaw04_FracRoots.j5])
                          | succ kj88 =>
                            have H := HA.out
                            clear HA
                            simp only [coupletlaw04_FracRoots.j5] at H
                            by_cases c115 : x77_88 = true
                            · subst c115
                              have H1 : ((frac_Wrong.f).bind fun bt368 => (if (t349 == bt368.1 && (t350 == bt368.2.1 && (t351 == bt368.2.2))) = true then ((coupletlaw04_awake.f kj88).bind fun t371 => (some t371)) else (some false))) = some r := by rw [if_pos rfl] at H; exact H
                              clear H
                              have H := H1
                              clear H1
                              replace H := Option.bind_eq_some_iff.mp H
                              obtain ⟨⟨t368, t369, t370⟩, A1160, H⟩ := H
                              replace H : (if (t349 == t368 && (t350 == t369 && (t351 == t370))) = true then ((coupletlaw04_awake.f kj88).bind fun t371 => (some t371)) else (some false)) = some r := H
                              have A116 := Aside0.mk A1160
                              clear A1160
                              by_cases c117 : (t349 == t368 && (t350 == t369 && (t351 == t370))) = true
                              · rw [if_pos c117] at H
                                have c117b0 : (t349 == t368 && (t350 == t369 && (t351 == t370))) = true := c117
                                (try (have c117b1 : decide (t349 = t368 && (t350 == t369 && (t351 == t370))) = true := by simpa using c117))
                                (try (have c117b2 : (t349 == t368 && (t350 == t369 && (t351 == t370))) = true := by simpa using c117))
                                clear c117
                                have ce_ : ((t349 == t368 && (t350 == t369 && (t351 == t370)))) = true := c117b0
                                simp only [Bool.and_eq_true, beq_iff_eq] at ce_
                                obtain ⟨rfl, rfl, rfl⟩ := ce_
                                replace H := Option.bind_eq_some_iff.mp H
                                obtain ⟨t371, A1180, H⟩ := H
                                replace H : (some t371) = some r := H
                                have A118 := Aside0.mk A1180
                                clear A1180
                                obtain rfl := Option.some.inj H
                                try go_wp2
                                have n0_ := Aside0.mk (blk_drew BK348.out)
                                have n1_ := Aside0.mk (blk_drew BK352.out)
                                have n2_ := Aside0.mk (blk_drew BK358.out)
                                have n3_ := Aside0.mk (below_drew1 HB.out)
                                clear BK348
                                clear BK352
                                clear BK358
                                clear HB
                                have BK348 := n0_
                                have BK352 := n1_
                                have BK358 := n2_
                                have HB := n3_
                                clear n0_ n1_ n2_ n3_
                                refine start_ (n := 7) (S := fun w' => w'.cell? ⟨gb352, 0, none⟩ = some (.int .i64 t349) ∧ w'.cell? ⟨gb352, 1, none⟩ = some (.int .i64 t350) ∧ w'.cell? ⟨gb352, 2, none⟩ = some (.bool t351)) (ds := []) #[false, false, false, false, false, false, false] (by kernel_rfl) rfl rfl ⟨(blk_cell BK352.out 0).trans rfl, (blk_cell BK352.out 1).trans rfl, (blk_cell BK352.out 2).trans rfl⟩ (fun hHeld => ?_)
                                generalize wc.drew = w119 at BK348 BK352 BK358 HB hHeld ⊢
                                refine take_ (i := 0) (N := some 78) (v := ?_) (a' := ?_) #[true, false, false, false, false, false, false] rfl rfl (by kernel_rfl) (fun _ _ _ h => h) (Or.inl ⟨by rfl, ?_⟩) hHeld ?_ ?_
                                rotate_left
                                · rintro w' ⟨s0, s1, s2⟩
                                  go_simp
                                  with_reducible rfl
                                rotate_left
                                · simp only [Act.put, List.setIfInBounds_toArray, List.set_cons_zero, List.set_cons_succ, i64_w, i32_w]
                                  rfl
                                refine one_ (i := 1) (N := some 79) #[true, true, false, false, false, false, false] rfl rfl (by kernel_rfl) (by decide) (fun K hK => ?_)
                                refine goes_ Try.func11 (by kernel_rfl) rfl #[] (by rfl) rfl rfl (by (try simp only [List.map_toArray, List.map_cons, List.map_nil]); first | done | rfl | (simp only [List.length_drop, List.length_take]; rfl)) ?_
                                with_reducible refine (frac_Wrong.calls  t349 t350 t351 _ A116.out).mono ?_
                                rintro e w120 ⟨rfl, hb⟩
                                refine ⟨_, rfl, ?_⟩
                                have n0_ := Aside0.mk (blk_below (g := gb348) (o := .cells #[.int .i64 a0_0, .int .i64 a0_1, .bool a0_2] 23 (0, 0)) (by (with_reducible repeat (first | refine blk_drewN ?_ _ | refine blk_drew ?_ | refine blk_alloc ?_ _)); exact BK348.out) hb)
                                have n1_ := Aside0.mk (blk_below (g := gb352) (o := .cells #[.int .i64 t349, .int .i64 t350, .bool t351] 23 (0, 0)) (by (with_reducible repeat (first | refine blk_drewN ?_ _ | refine blk_drew ?_ | refine blk_alloc ?_ _)); exact BK352.out) hb)
                                have n2_ := Aside0.mk (blk_below (g := gb358) (o := .cells #[.int .i64 t355, .int .i64 t356, .bool t357] 23 (0, 0)) (by (with_reducible repeat (first | refine blk_drewN ?_ _ | refine blk_drew ?_ | refine blk_alloc ?_ _)); exact BK358.out) hb)
                                have n3_ := Aside0.mk (below_step (by repeat (first | (with_reducible first | exact HB.out | apply below_alloc | apply pw_below_drewN | apply below_drew1 | refine below_set ?_ GE348.out | refine below_set ?_ GE352.out | refine below_set ?_ GE358.out) | exact HB.out)) hb)
                                clear BK348
                                clear BK352
                                clear BK358
                                clear HB
                                have BK348 := n0_
                                have BK352 := n1_
                                have BK358 := n2_
                                have HB := n3_
                                clear n0_ n1_ n2_ n3_
                                (try clear hb)
                                (try clear hb2)
                                (try clear hk)
                                (try clear hi)
                                refine hK.out _ _ ⟨(blk_cell BK352.out 0).trans rfl, (blk_cell BK352.out 1).trans rfl, (blk_cell BK352.out 2).trans rfl⟩ (fun hHeld => ?_)
                                clear hK K
                                refine norm_ (a' := ?_) ?_ ?_
                                rotate_left
                                · show Act.put _ (some 79) _ = _
                                  simp only [Act.put, List.setIfInBounds_toArray, List.set_cons_zero, List.set_cons_succ, i64_w, i32_w]
                                  rfl
                                refine pure_ (i := 2) (N := some 80) (v := ?_) (a' := ?_) #[true, true, true, false, false, false, false] rfl rfl (by kernel_rfl) (fun _ _ _ h => h) (Or.inl ⟨by rfl, ?_⟩) ?_ ?_
                                rotate_left
                                · intro w'
                                  go_simp
                                  with_reducible rfl
                                rotate_left
                                · simp only [Act.put, List.setIfInBounds_toArray, List.set_cons_zero, List.set_cons_succ, i64_w, i32_w]
                                  rfl
                                refine pure_ (i := 3) (N := some 81) (v := ?_) (a' := ?_) #[true, true, true, true, false, false, false] rfl rfl (by kernel_rfl) (fun _ _ _ h => h) (Or.inl ⟨by rfl, ?_⟩) ?_ ?_
                                rotate_left
                                · intro w'
                                  go_simp
                                  with_reducible rfl
                                rotate_left
                                · simp only [Act.put, List.setIfInBounds_toArray, List.set_cons_zero, List.set_cons_succ, i64_w, i32_w]
                                  rfl
                                refine one_ (i := 4) (N := some 82) #[true, true, true, true, true, false, false] rfl rfl (by kernel_rfl) (by decide) (fun K hK => ?_)
                                refine goes_ Try.func12 (by kernel_rfl) rfl #[] (by rfl) rfl rfl (by (try simp only [List.map_toArray, List.map_cons, List.map_nil]); first | done | rfl | (simp only [List.length_drop, List.length_take]; rfl)) ?_
                                with_reducible refine (coupletlaw04_awake.calls kj88  t371 _ A118.out).mono ?_
                                rintro e w121 ⟨rfl, hb⟩
                                refine ⟨_, rfl, ?_⟩
                                have n0_ := Aside0.mk (blk_below (g := gb348) (o := .cells #[.int .i64 a0_0, .int .i64 a0_1, .bool a0_2] 23 (0, 0)) (by (with_reducible repeat (first | refine blk_drewN ?_ _ | refine blk_drew ?_ | refine blk_alloc ?_ _)); exact BK348.out) hb)
                                have n1_ := Aside0.mk (blk_below (g := gb352) (o := .cells #[.int .i64 t349, .int .i64 t350, .bool t351] 23 (0, 0)) (by (with_reducible repeat (first | refine blk_drewN ?_ _ | refine blk_drew ?_ | refine blk_alloc ?_ _)); exact BK352.out) hb)
                                have n2_ := Aside0.mk (blk_below (g := gb358) (o := .cells #[.int .i64 t355, .int .i64 t356, .bool t357] 23 (0, 0)) (by (with_reducible repeat (first | refine blk_drewN ?_ _ | refine blk_drew ?_ | refine blk_alloc ?_ _)); exact BK358.out) hb)
                                have n3_ := Aside0.mk (below_step (by repeat (first | (with_reducible first | exact HB.out | apply below_alloc | apply pw_below_drewN | apply below_drew1 | refine below_set ?_ GE348.out | refine below_set ?_ GE352.out | refine below_set ?_ GE358.out) | exact HB.out)) hb)
                                clear BK348
                                clear BK352
                                clear BK358
                                clear HB
                                have BK348 := n0_
                                have BK352 := n1_
                                have BK358 := n2_
                                have HB := n3_
                                clear n0_ n1_ n2_ n3_
                                (try clear hb)
                                (try clear hb2)
                                (try clear hk)
                                (try clear hi)
                                refine hK.out _ _ ⟨(blk_cell BK352.out 0).trans rfl, (blk_cell BK352.out 1).trans rfl, (blk_cell BK352.out 2).trans rfl⟩ (fun hHeld => ?_)
                                clear hK K
                                refine norm_ (a' := ?_) ?_ ?_
                                rotate_left
                                · show Act.put _ (some 82) _ = _
                                  simp only [Act.put, List.setIfInBounds_toArray, List.set_cons_zero, List.set_cons_succ, i64_w, i32_w]
                                  rfl
                                refine pure_ (i := 5) (N := some 83) (v := ?_) (a' := ?_) #[true, true, true, true, true, true, false] rfl rfl (by kernel_rfl) (fun _ _ _ h => h) (Or.inl ⟨by rfl, ?_⟩) ?_ ?_
                                rotate_left
                                · intro w'
                                  go_simp
                                  with_reducible rfl
                                rotate_left
                                · simp only [Act.put, List.setIfInBounds_toArray, List.set_cons_zero, List.set_cons_succ, i64_w, i32_w]
                                  rfl
                                refine pure_ (i := 6) (N := some 4) (v := ?_) (a' := ?_) #[true, true, true, true, true, true, true] rfl rfl (by kernel_rfl) (fun _ _ _ h => h) (Or.inl ⟨by rfl, ?_⟩) ?_ ?_
                                rotate_left
                                · intro w'
                                  go_simp
                                  with_reducible rfl
                                rotate_left
                                · simp only [Act.put, List.setIfInBounds_toArray, List.set_cons_zero, List.set_cons_succ, i64_w, i32_w]
                                  rfl
                                refine done_ (by kernel_rfl) ?_
                                try go_wp2
                                go_ret
                                exact ⟨by first | rfl | (simp [errW_none, errW_some] <;> rfl) | (simp [*, errW_none, errW_some] <;> rfl), by repeat (first | (with_reducible first | exact HB.out | apply below_alloc | apply pw_below_drewN | apply below_drew1 | refine below_set ?_ GE348.out | refine below_set ?_ GE352.out | refine below_set ?_ GE358.out) | exact HB.out)⟩
                              · rw [if_neg c117] at H
                                have c117b0 : (t349 == t368 && (t350 == t369 && (t351 == t370))) = false := by simpa using c117
                                (try (have c117b1 : decide (t349 = t368 && (t350 == t369 && (t351 == t370))) = false := by simpa using c117))
                                (try (have c117b2 : (t349 == t368 && (t350 == t369 && (t351 == t370))) = false := by simpa using c117))
                                (try (have c117b3 : ¬ (t349 = t368 && (t350 == t369 && (t351 == t370))) := by simpa using c117))
                                clear c117
                                obtain rfl := Option.some.inj H
                                exact absurd hr (by decide)
                            · replace c115 := Bool.eq_false_iff.mpr c115
                              subst c115
                              have H1 : ((coupletref04_Square.f kj88 a0_0).bind fun t372 => ((coupletref04_Square.f kj88 a0_1).bind fun t373 => (if (t349 == t372 && (t350 == t373 && (!t351))) = true then ((frac_Frac_Mul.f kj88 t349 t350 t351 t349 t350 t351).bind fun bt374 => (if (bt374.1 == a0_0 && (bt374.2.1 == a0_1 && (bt374.2.2 == a0_2))) = true then ((coupletlaw04_awake.f kj88).bind fun t377 => (some t377)) else (some false))) else (some false)))) = some r := by rw [if_neg (show ¬ (false = true) by decide)] at H; exact H
                              clear H
                              have H := H1
                              clear H1
                              replace H := Option.bind_eq_some_iff.mp H
                              obtain ⟨t372, A1240, H⟩ := H
                              replace H : ((coupletref04_Square.f kj88 a0_1).bind fun t373 => (if (t349 == t372 && (t350 == t373 && (!t351))) = true then ((frac_Frac_Mul.f kj88 t349 t350 t351 t349 t350 t351).bind fun bt374 => (if (bt374.1 == a0_0 && (bt374.2.1 == a0_1 && (bt374.2.2 == a0_2))) = true then ((coupletlaw04_awake.f kj88).bind fun t377 => (some t377)) else (some false))) else (some false))) = some r := H
                              have A124 := Aside0.mk A1240
                              clear A1240
                              replace H := Option.bind_eq_some_iff.mp H
                              obtain ⟨t373, A1250, H⟩ := H
                              replace H : (if (t349 == t372 && (t350 == t373 && (!t351))) = true then ((frac_Frac_Mul.f kj88 t349 t350 t351 t349 t350 t351).bind fun bt374 => (if (bt374.1 == a0_0 && (bt374.2.1 == a0_1 && (bt374.2.2 == a0_2))) = true then ((coupletlaw04_awake.f kj88).bind fun t377 => (some t377)) else (some false))) else (some false)) = some r := H
                              have A125 := Aside0.mk A1250
                              clear A1250
                              by_cases c126 : (t349 == t372 && (t350 == t373 && (!t351))) = true
                              · rw [if_pos c126] at H
                                have c126b0 : (t349 == t372 && (t350 == t373 && (!t351))) = true := c126
                                (try (have c126b1 : decide (t349 = t372 && (t350 == t373 && (!t351))) = true := by simpa using c126))
                                (try (have c126b2 : (t349 == t372 && (t350 == t373 && (!t351))) = true := by simpa using c126))
                                clear c126
                                replace H := Option.bind_eq_some_iff.mp H
                                obtain ⟨⟨t374, t375, t376⟩, A1270, H⟩ := H
                                replace H : (if (t374 == a0_0 && (t375 == a0_1 && (t376 == a0_2))) = true then ((coupletlaw04_awake.f kj88).bind fun t377 => (some t377)) else (some false)) = some r := H
                                have A127 := Aside0.mk A1270
                                clear A1270
                                by_cases c128 : (t374 == a0_0 && (t375 == a0_1 && (t376 == a0_2))) = true
                                · rw [if_pos c128] at H
                                  have c128b0 : (t374 == a0_0 && (t375 == a0_1 && (t376 == a0_2))) = true := c128
                                  (try (have c128b1 : decide (t374 = a0_0 && (t375 == a0_1 && (t376 == a0_2))) = true := by simpa using c128))
                                  (try (have c128b2 : (t374 == a0_0 && (t375 == a0_1 && (t376 == a0_2))) = true := by simpa using c128))
                                  clear c128
                                  replace H := Option.bind_eq_some_iff.mp H
                                  obtain ⟨t377, A1290, H⟩ := H
                                  replace H : (some t377) = some r := H
                                  have A129 := Aside0.mk A1290
                                  clear A1290
                                  obtain rfl := Option.some.inj H
                                  try go_wp2
                                  have n0_ := Aside0.mk (blk_drew BK348.out)
                                  have n1_ := Aside0.mk (blk_drew BK352.out)
                                  have n2_ := Aside0.mk (blk_drew BK358.out)
                                  have n3_ := Aside0.mk (below_drew1 HB.out)
                                  clear BK348
                                  clear BK352
                                  clear BK358
                                  clear HB
                                  have BK348 := n0_
                                  have BK352 := n1_
                                  have BK358 := n2_
                                  have HB := n3_
                                  clear n0_ n1_ n2_ n3_
                                  refine start_ (n := 20) (S := fun w' => w'.cell? ⟨gb352, 0, none⟩ = some (.int .i64 t349) ∧ w'.cell? ⟨gb352, 1, none⟩ = some (.int .i64 t350) ∧ w'.cell? ⟨gb352, 2, none⟩ = some (.bool t351) ∧ w'.cell? ⟨gb348, 0, none⟩ = some (.int .i64 a0_0) ∧ w'.cell? ⟨gb348, 1, none⟩ = some (.int .i64 a0_1) ∧ w'.cell? ⟨gb348, 2, none⟩ = some (.bool a0_2)) (ds := []) #[false, false, false, false, false, false, false, false, false, false, false, false, false, false, false, false, false, false, false, false] (by kernel_rfl) rfl rfl ⟨(blk_cell BK352.out 0).trans rfl, (blk_cell BK352.out 1).trans rfl, (blk_cell BK352.out 2).trans rfl, (blk_cell BK348.out 0).trans rfl, (blk_cell BK348.out 1).trans rfl, (blk_cell BK348.out 2).trans rfl⟩ (fun hHeld => ?_); refine with_tabW coupletlaw04_FracRoots.tab12 coupletlaw04_FracRoots.bits12 (fun HT_ HW_ => ?_)
                                  generalize wc.drew = w130 at BK348 BK352 BK358 HB hHeld ⊢
                                  refine pure_ (i := 1) (N := some 85) (v := ?_) (a' := ?_) #[false, true, false, false, false, false, false, false, false, false, false, false, false, false, false, false, false, false, false, false] rfl rfl (any_of HT_.out (by kernel_rfl)) (fun _ _ _ h => h) (Or.inl ⟨by rfl, ?_⟩) ?_ ?_
                                  rotate_left
                                  · intro w'
                                    go_simp
                                    with_reducible rfl
                                  rotate_left
                                  · simp only [Act.put, List.setIfInBounds_toArray, List.set_cons_zero, List.set_cons_succ, i64_w, i32_w]
                                    rfl
                                  refine pure_ (i := 4) (N := some 88) (v := ?_) (a' := ?_) #[false, true, false, false, true, false, false, false, false, false, false, false, false, false, false, false, false, false, false, false] rfl rfl (any_of HT_.out (by kernel_rfl)) (fun _ _ _ h => h) (Or.inl ⟨by rfl, ?_⟩) ?_ ?_
                                  rotate_left
                                  · intro w'
                                    go_simp
                                    with_reducible rfl
                                  rotate_left
                                  · simp only [Act.put, List.setIfInBounds_toArray, List.set_cons_zero, List.set_cons_succ, i64_w, i32_w]
                                    rfl
                                  refine take_ (i := 0) (N := some 84) (v := ?_) (a' := ?_) #[true, true, false, false, true, false, false, false, false, false, false, false, false, false, false, false, false, false, false, false] rfl rfl (take_ofW HT_.out HW_.out (by kernel_rfl)) (fun _ _ _ h => h) (Or.inl ⟨by rfl, ?_⟩) hHeld ?_ ?_
                                  rotate_left
                                  · rintro w' ⟨s0, s1, s2, s3, s4, s5⟩
                                    go_simp
                                    with_reducible rfl
                                  rotate_left
                                  · simp only [Act.put, List.setIfInBounds_toArray, List.set_cons_zero, List.set_cons_succ, i64_w, i32_w]
                                    rfl
                                  refine take_ (i := 2) (N := some 86) (v := ?_) (a' := ?_) #[true, true, true, false, true, false, false, false, false, false, false, false, false, false, false, false, false, false, false, false] rfl rfl (take_ofW HT_.out HW_.out (by kernel_rfl)) (fun _ _ _ h => h) (Or.inl ⟨by rfl, ?_⟩) hHeld ?_ ?_
                                  rotate_left
                                  · rintro w' ⟨s0, s1, s2, s3, s4, s5⟩
                                    go_simp
                                    with_reducible rfl
                                  rotate_left
                                  · simp only [Act.put, List.setIfInBounds_toArray, List.set_cons_zero, List.set_cons_succ, i64_w, i32_w]
                                    rfl
                                  refine take_ (i := 5) (N := some 89) (v := ?_) (a' := ?_) #[true, true, true, false, true, true, false, false, false, false, false, false, false, false, false, false, false, false, false, false] rfl rfl (take_ofW HT_.out HW_.out (by kernel_rfl)) (fun _ _ _ h => h) (Or.inl ⟨by rfl, ?_⟩) hHeld ?_ ?_
                                  rotate_left
                                  · rintro w' ⟨s0, s1, s2, s3, s4, s5⟩
                                    go_simp
                                    with_reducible rfl
                                  rotate_left
                                  · simp only [Act.put, List.setIfInBounds_toArray, List.set_cons_zero, List.set_cons_succ, i64_w, i32_w]
                                    rfl
                                  refine one_ (i := 3) (N := some 87) #[true, true, true, true, true, true, false, false, false, false, false, false, false, false, false, false, false, false, false, false] rfl rfl (one_of HT_.out (by kernel_rfl)) (by decide) (fun K hK => ?_)
                                  refine goes_ Try.func22 (by kernel_rfl) rfl #[.int .i64 a0_0] (by rfl) rfl rfl (by (try simp only [List.map_toArray, List.map_cons, List.map_nil]); first | done | rfl | (simp only [List.length_drop, List.length_take]; rfl)) ?_
                                  with_reducible refine (coupletref04_Square.calls kj88 a0_0 t372 _ A124.out).mono ?_
                                  rintro e w' ⟨rfl, ⟨nd, rfl⟩⟩
                                  refine ⟨_, rfl, ?_⟩
                                  refine hK.out _ _ ⟨(blk_cell BK352.out 0).trans rfl, (blk_cell BK352.out 1).trans rfl, (blk_cell BK352.out 2).trans rfl, (blk_cell BK348.out 0).trans rfl, (blk_cell BK348.out 1).trans rfl, (blk_cell BK348.out 2).trans rfl⟩ (fun hHeld => ?_)
                                  clear hK K
                                  refine norm_ (a' := ?_) ?_ ?_
                                  rotate_left
                                  · show Act.put _ (some 87) _ = _
                                    simp only [Act.put, List.setIfInBounds_toArray, List.set_cons_zero, List.set_cons_succ, i64_w, i32_w]
                                    rfl
                                  refine one_ (i := 6) (N := some 90) #[true, true, true, true, true, true, true, false, false, false, false, false, false, false, false, false, false, false, false, false] rfl rfl (one_of HT_.out (by kernel_rfl)) (by decide) (fun K hK => ?_)
                                  refine goes_ Try.func22 (by kernel_rfl) rfl #[.int .i64 a0_1] (by rfl) rfl rfl (by (try simp only [List.map_toArray, List.map_cons, List.map_nil]); first | done | rfl | (simp only [List.length_drop, List.length_take]; rfl)) ?_
                                  with_reducible refine (coupletref04_Square.calls kj88 a0_1 t373 _ A125.out).mono ?_
                                  rintro e w' ⟨rfl, ⟨nd, rfl⟩⟩
                                  refine ⟨_, rfl, ?_⟩
                                  refine hK.out _ _ ⟨(blk_cell BK352.out 0).trans rfl, (blk_cell BK352.out 1).trans rfl, (blk_cell BK352.out 2).trans rfl, (blk_cell BK348.out 0).trans rfl, (blk_cell BK348.out 1).trans rfl, (blk_cell BK348.out 2).trans rfl⟩ (fun hHeld => ?_)
                                  clear hK K
                                  refine norm_ (a' := ?_) ?_ ?_
                                  rotate_left
                                  · show Act.put _ (some 90) _ = _
                                    simp only [Act.put, List.setIfInBounds_toArray, List.set_cons_zero, List.set_cons_succ, i64_w, i32_w]
                                    rfl
                                  refine pure_ (i := 7) (N := some 91) (v := ?_) (a' := ?_) #[true, true, true, true, true, true, true, true, false, false, false, false, false, false, false, false, false, false, false, false] rfl rfl (any_of HT_.out (by kernel_rfl)) (fun _ _ _ h => h) (Or.inl ⟨by rfl, ?_⟩) ?_ ?_
                                  rotate_left
                                  · intro w'
                                    go_simp
                                    with_reducible rfl
                                  rotate_left
                                  · simp only [Act.put, List.setIfInBounds_toArray, List.set_cons_zero, List.set_cons_succ, i64_w, i32_w]
                                    rfl
                                  refine pure_ (i := 8) (N := some 92) (v := ?_) (a' := ?_) #[true, true, true, true, true, true, true, true, true, false, false, false, false, false, false, false, false, false, false, false] rfl rfl (any_of HT_.out (by kernel_rfl)) (fun _ _ _ h => h) (Or.inl ⟨by rfl, ?_⟩) ?_ ?_
                                  rotate_left
                                  · intro w'
                                    go_simp
                                    with_reducible rfl
                                  rotate_left
                                  · simp only [Act.put, List.setIfInBounds_toArray, List.set_cons_zero, List.set_cons_succ, i64_w, i32_w]
                                    rfl
                                  refine pure_ (i := 9) (N := some 93) (v := ?_) (a' := ?_) #[true, true, true, true, true, true, true, true, true, true, false, false, false, false, false, false, false, false, false, false] rfl rfl (any_of HT_.out (by kernel_rfl)) (fun _ _ _ h => h) (Or.inl ⟨by rfl, ?_⟩) ?_ ?_
                                  rotate_left
                                  · intro w'
                                    go_simp
                                    with_reducible rfl
                                  rotate_left
                                  · simp only [Act.put, List.setIfInBounds_toArray, List.set_cons_zero, List.set_cons_succ, i64_w, i32_w]
                                    rfl
                                  refine take_ (i := 10) (N := some 94) (v := ?_) (a' := ?_) #[true, true, true, true, true, true, true, true, true, true, true, false, false, false, false, false, false, false, false, false] rfl rfl (take_ofW HT_.out HW_.out (by kernel_rfl)) (fun _ _ _ h => h) (Or.inl ⟨by rfl, ?_⟩) hHeld ?_ ?_
                                  rotate_left
                                  · rintro w' ⟨s0, s1, s2, s3, s4, s5⟩
                                    go_simp
                                    with_reducible rfl
                                  rotate_left
                                  · simp only [Act.put, List.setIfInBounds_toArray, List.set_cons_zero, List.set_cons_succ, i64_w, i32_w]
                                    rfl
                                  refine take_ (i := 11) (N := some 95) (v := ?_) (a' := ?_) #[true, true, true, true, true, true, true, true, true, true, true, true, false, false, false, false, false, false, false, false] rfl rfl (take_ofW HT_.out HW_.out (by kernel_rfl)) (fun _ _ _ h => h) (Or.inl ⟨by rfl, ?_⟩) hHeld ?_ ?_
                                  rotate_left
                                  · rintro w' ⟨s0, s1, s2, s3, s4, s5⟩
                                    go_simp
                                    with_reducible rfl
                                  rotate_left
                                  · simp only [Act.put, List.setIfInBounds_toArray, List.set_cons_zero, List.set_cons_succ, i64_w, i32_w]
                                    rfl
                                  refine take_ (i := 13) (N := some 97) (v := ?_) (a' := ?_) #[true, true, true, true, true, true, true, true, true, true, true, true, false, true, false, false, false, false, false, false] rfl rfl (take_ofW HT_.out HW_.out (by kernel_rfl)) (fun _ _ _ h => h) (Or.inl ⟨by rfl, ?_⟩) hHeld ?_ ?_
                                  rotate_left
                                  · rintro w' ⟨s0, s1, s2, s3, s4, s5⟩
                                    go_simp
                                    with_reducible rfl
                                  rotate_left
                                  · simp only [Act.put, List.setIfInBounds_toArray, List.set_cons_zero, List.set_cons_succ, i64_w, i32_w]
                                    rfl
                                  refine one_ (i := 12) (N := some 96) #[true, true, true, true, true, true, true, true, true, true, true, true, true, true, false, false, false, false, false, false] rfl rfl (one_of HT_.out (by kernel_rfl)) (by decide) (fun K hK => ?_)
                                  refine goes_ Try.func23 (by kernel_rfl) rfl #[.agg #[.int .i64 t349, .int .i64 t350, .bool t351], .agg #[.int .i64 t349, .int .i64 t350, .bool t351]] (by rfl) rfl rfl (by (try simp only [List.map_toArray, List.map_cons, List.map_nil]); first | done | rfl | (simp only [List.length_drop, List.length_take]; rfl)) ?_
                                  with_reducible refine (frac_Frac_Mul.calls kj88 t349 t350 t351 t349 t350 t351 t374 t375 t376 _ A127.out).mono ?_
                                  rintro e w131 ⟨rfl, hb⟩
                                  refine ⟨_, rfl, ?_⟩
                                  have n0_ := Aside0.mk (blk_below (g := gb348) (o := .cells #[.int .i64 a0_0, .int .i64 a0_1, .bool a0_2] 23 (0, 0)) (by (with_reducible repeat (first | refine blk_drewN ?_ _ | refine blk_drew ?_ | refine blk_alloc ?_ _)); exact BK348.out) hb)
                                  have n1_ := Aside0.mk (blk_below (g := gb352) (o := .cells #[.int .i64 t349, .int .i64 t350, .bool t351] 23 (0, 0)) (by (with_reducible repeat (first | refine blk_drewN ?_ _ | refine blk_drew ?_ | refine blk_alloc ?_ _)); exact BK352.out) hb)
                                  have n2_ := Aside0.mk (blk_below (g := gb358) (o := .cells #[.int .i64 t355, .int .i64 t356, .bool t357] 23 (0, 0)) (by (with_reducible repeat (first | refine blk_drewN ?_ _ | refine blk_drew ?_ | refine blk_alloc ?_ _)); exact BK358.out) hb)
                                  have n3_ := Aside0.mk (below_step (by repeat (first | (with_reducible first | exact HB.out | apply below_alloc | apply pw_below_drewN | apply below_drew1 | refine below_set ?_ GE348.out | refine below_set ?_ GE352.out | refine below_set ?_ GE358.out) | exact HB.out)) hb)
                                  clear BK348
                                  clear BK352
                                  clear BK358
                                  clear HB
                                  have BK348 := n0_
                                  have BK352 := n1_
                                  have BK358 := n2_
                                  have HB := n3_
                                  clear n0_ n1_ n2_ n3_
                                  (try clear hb)
                                  (try clear hb2)
                                  (try clear hk)
                                  (try clear hi)
                                  refine hK.out _ _ ⟨(blk_cell BK352.out 0).trans rfl, (blk_cell BK352.out 1).trans rfl, (blk_cell BK352.out 2).trans rfl, (blk_cell BK348.out 0).trans rfl, (blk_cell BK348.out 1).trans rfl, (blk_cell BK348.out 2).trans rfl⟩ (fun hHeld => ?_)
                                  clear hK K
                                  refine norm_ (a' := ?_) ?_ ?_
                                  rotate_left
                                  · show Act.put _ (some 96) _ = _
                                    simp only [Act.put, List.setIfInBounds_toArray, List.set_cons_zero, List.set_cons_succ, i64_w, i32_w]
                                    rfl
                                  refine pure_ (i := 14) (N := some 98) (v := ?_) (a' := ?_) #[true, true, true, true, true, true, true, true, true, true, true, true, true, true, true, false, false, false, false, false] rfl rfl (any_of HT_.out (by kernel_rfl)) (fun _ _ _ h => h) (Or.inl ⟨by rfl, ?_⟩) ?_ ?_
                                  rotate_left
                                  · intro w'
                                    go_simp
                                    with_reducible rfl
                                  rotate_left
                                  · simp only [Act.put, List.setIfInBounds_toArray, List.set_cons_zero, List.set_cons_succ, i64_w, i32_w]
                                    rfl
                                  refine pure_ (i := 15) (N := some 99) (v := ?_) (a' := ?_) #[true, true, true, true, true, true, true, true, true, true, true, true, true, true, true, true, false, false, false, false] rfl rfl (any_of HT_.out (by kernel_rfl)) (fun _ _ _ h => h) (Or.inl ⟨by rfl, ?_⟩) ?_ ?_
                                  rotate_left
                                  · intro w'
                                    go_simp
                                    with_reducible rfl
                                  rotate_left
                                  · simp only [Act.put, List.setIfInBounds_toArray, List.set_cons_zero, List.set_cons_succ, i64_w, i32_w]
                                    rfl
                                  refine pure_ (i := 16) (N := some 100) (v := ?_) (a' := ?_) #[true, true, true, true, true, true, true, true, true, true, true, true, true, true, true, true, true, false, false, false] rfl rfl (any_of HT_.out (by kernel_rfl)) (fun _ _ _ h => h) (Or.inl ⟨by rfl, ?_⟩) ?_ ?_
                                  rotate_left
                                  · intro w'
                                    go_simp
                                    with_reducible rfl
                                  rotate_left
                                  · simp only [Act.put, List.setIfInBounds_toArray, List.set_cons_zero, List.set_cons_succ, i64_w, i32_w]
                                    rfl
                                  refine one_ (i := 17) (N := some 101) #[true, true, true, true, true, true, true, true, true, true, true, true, true, true, true, true, true, true, false, false] rfl rfl (one_of HT_.out (by kernel_rfl)) (by decide) (fun K hK => ?_)
                                  refine goes_ Try.func12 (by kernel_rfl) rfl #[] (by rfl) rfl rfl (by (try simp only [List.map_toArray, List.map_cons, List.map_nil]); first | done | rfl | (simp only [List.length_drop, List.length_take]; rfl)) ?_
                                  with_reducible refine (coupletlaw04_awake.calls kj88  t377 _ A129.out).mono ?_
                                  rintro e w132 ⟨rfl, hb⟩
                                  refine ⟨_, rfl, ?_⟩
                                  have n0_ := Aside0.mk (blk_below (g := gb348) (o := .cells #[.int .i64 a0_0, .int .i64 a0_1, .bool a0_2] 23 (0, 0)) (by (with_reducible repeat (first | refine blk_drewN ?_ _ | refine blk_drew ?_ | refine blk_alloc ?_ _)); exact BK348.out) hb)
                                  have n1_ := Aside0.mk (blk_below (g := gb352) (o := .cells #[.int .i64 t349, .int .i64 t350, .bool t351] 23 (0, 0)) (by (with_reducible repeat (first | refine blk_drewN ?_ _ | refine blk_drew ?_ | refine blk_alloc ?_ _)); exact BK352.out) hb)
                                  have n2_ := Aside0.mk (blk_below (g := gb358) (o := .cells #[.int .i64 t355, .int .i64 t356, .bool t357] 23 (0, 0)) (by (with_reducible repeat (first | refine blk_drewN ?_ _ | refine blk_drew ?_ | refine blk_alloc ?_ _)); exact BK358.out) hb)
                                  have n3_ := Aside0.mk (below_step (by repeat (first | (with_reducible first | exact HB.out | apply below_alloc | apply pw_below_drewN | apply below_drew1 | refine below_set ?_ GE348.out | refine below_set ?_ GE352.out | refine below_set ?_ GE358.out) | exact HB.out)) hb)
                                  clear BK348
                                  clear BK352
                                  clear BK358
                                  clear HB
                                  have BK348 := n0_
                                  have BK352 := n1_
                                  have BK358 := n2_
                                  have HB := n3_
                                  clear n0_ n1_ n2_ n3_
                                  (try clear hb)
                                  (try clear hb2)
                                  (try clear hk)
                                  (try clear hi)
                                  refine hK.out _ _ ⟨(blk_cell BK352.out 0).trans rfl, (blk_cell BK352.out 1).trans rfl, (blk_cell BK352.out 2).trans rfl, (blk_cell BK348.out 0).trans rfl, (blk_cell BK348.out 1).trans rfl, (blk_cell BK348.out 2).trans rfl⟩ (fun hHeld => ?_)
                                  clear hK K
                                  refine norm_ (a' := ?_) ?_ ?_
                                  rotate_left
                                  · show Act.put _ (some 101) _ = _
                                    simp only [Act.put, List.setIfInBounds_toArray, List.set_cons_zero, List.set_cons_succ, i64_w, i32_w]
                                    rfl
                                  refine pure_ (i := 18) (N := some 102) (v := ?_) (a' := ?_) #[true, true, true, true, true, true, true, true, true, true, true, true, true, true, true, true, true, true, true, false] rfl rfl (any_of HT_.out (by kernel_rfl)) (fun _ _ _ h => h) (Or.inl ⟨by rfl, ?_⟩) ?_ ?_
                                  rotate_left
                                  · intro w'
                                    go_simp
                                    with_reducible rfl
                                  rotate_left
                                  · simp only [Act.put, List.setIfInBounds_toArray, List.set_cons_zero, List.set_cons_succ, i64_w, i32_w]
                                    rfl
                                  refine pure_ (i := 19) (N := some 4) (v := ?_) (a' := ?_) #[true, true, true, true, true, true, true, true, true, true, true, true, true, true, true, true, true, true, true, true] rfl rfl (any_of HT_.out (by kernel_rfl)) (fun _ _ _ h => h) (Or.inl ⟨by rfl, ?_⟩) ?_ ?_
                                  rotate_left
                                  · intro w'
                                    go_simp
                                    with_reducible rfl
                                  rotate_left
                                  · simp only [Act.put, List.setIfInBounds_toArray, List.set_cons_zero, List.set_cons_succ, i64_w, i32_w]
                                    rfl
                                  refine done_ (done_of HT_.out (by kernel_rfl)) ?_
                                  try go_wp2
                                  go_ret
                                  exact ⟨by first | rfl | (simp [errW_none, errW_some] <;> rfl) | (simp [*, errW_none, errW_some] <;> rfl), by repeat (first | (with_reducible first | exact HB.out | apply below_alloc | apply pw_below_drewN | apply below_drew1 | refine below_set ?_ GE348.out | refine below_set ?_ GE352.out | refine below_set ?_ GE358.out) | exact HB.out)⟩
                                · rw [if_neg c128] at H
                                  have c128b0 : (t374 == a0_0 && (t375 == a0_1 && (t376 == a0_2))) = false := by simpa using c128
                                  (try (have c128b1 : decide (t374 = a0_0 && (t375 == a0_1 && (t376 == a0_2))) = false := by simpa using c128))
                                  (try (have c128b2 : (t374 == a0_0 && (t375 == a0_1 && (t376 == a0_2))) = false := by simpa using c128))
                                  (try (have c128b3 : ¬ (t374 = a0_0 && (t375 == a0_1 && (t376 == a0_2))) := by simpa using c128))
                                  clear c128
                                  obtain rfl := Option.some.inj H
                                  exact absurd hr (by decide)
                              · rw [if_neg c126] at H
                                have c126b0 : (t349 == t372 && (t350 == t373 && (!t351))) = false := by simpa using c126
                                (try (have c126b1 : decide (t349 = t372 && (t350 == t373 && (!t351))) = false := by simpa using c126))
                                (try (have c126b2 : (t349 == t372 && (t350 == t373 && (!t351))) = false := by simpa using c126))
                                (try (have c126b3 : ¬ (t349 = t372 && (t350 == t373 && (!t351))) := by simpa using c126))
                                clear c126
                                obtain rfl := Option.some.inj H
                                exact absurd hr (by decide)

end Go.Proofs.Ytbpbeighpaaeaaa.G
