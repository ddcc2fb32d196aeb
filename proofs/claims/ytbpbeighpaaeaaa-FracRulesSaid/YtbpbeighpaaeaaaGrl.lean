-- Written by the kit's print.py for this seat over wip/F/doctor.py, then turned by wip/F/fix.py.
import Derived.Test.YtbpbeighpaaeaaaGx0
import Derived.Test.YtbpbeighpaaeaaaFld
import Derived.Test.YtbpbeighpaaeaaaFlx
import Derived.Test.YtbpbeighpaaeaaaGrld
import Derived.Test.YtbpbeighpaaeaaaFr
import Derived.Test.YtbpbeighpaaeaaaGfi
import Derived.Test.YtbpbeighpaaeaaaGx1
import Derived.Test.YtbpbeighpaaeaaaGx5
import Derived.Test.YtbpbeighpaaeaaaGx9
namespace Go.Proofs.Ytbpbeighpaaeaaa.G
open Go.RowKit Go.Proofs.YtbpbeighpaaeaaaW.PrintWords Go.Proofs.YtbpbeighpaaeaaaW.PrintLast Go.Proofs.YtbpbeighpaaeaaaW.PrintMore
attribute [local go_sem] max2_int min2_int max_two min_two max_three min_three max_four min_four   -- for this text's walks alone
attribute [local go_sem high] field23_0 field23_1 field23_2 build38 index38_0 index38_1 index38_2
set_option linter.unusedVariables false
set_option linter.unusedSimpArgs false

attribute [local go_sem high] eqA23
def coupletlaw04_FracRules.T7 : Bool × List (List Nat × List Nat) := (true, [([], []), ([], []), ([0, 1], [0, 1]), ([], []), ([], []), ([3, 4, 2], [3, 4]), ([2, 5], [2, 5]), ([6, 5], [6]), ([7], [7]), ([7], [7]), ([8, 9, 7, 7], [7, 8, 9]), ([7], [7]), ([7], [7]), ([11, 12, 10, 7], [7, 11, 12]), ([10, 13, 7], [7, 10, 13]), ([7, 14], [7, 14]), ([15, 13], [15]), ([16], [16]), ([16], [16]), ([17, 18, 16, 16], [16, 17, 18]), ([16], [16]), ([19, 20, 19, 16], [16, 19, 20]), ([16], [16]), ([16], [16]), ([16], [16]), ([23, 24, 21, 16], [16, 23, 24]), ([22, 25, 25, 16], [16, 22, 25]), ([21, 26, 16], [16, 21, 26]), ([16, 27], [16, 27]), ([28, 26], [28]), ([29], [29]), ([29], [29]), ([30, 31, 29, 29], [29, 30, 31]), ([29], [29]), ([32, 33, 32, 29], [29, 32, 33]), ([29], [29]), ([29], [29]), ([29], [29]), ([36, 37, 34, 29], [29, 36, 37]), ([35, 38, 38, 29], [29, 35, 38]), ([34, 39, 29], [29, 34, 39]), ([29, 40], [29, 40]), ([41, 39], [41]), ([42], [42]), ([42], [42]), ([43, 44, 42, 42], [42, 43, 44]), ([42], [42]), ([45, 46, 45, 42], [42, 45, 46]), ([42], [42]), ([47, 48, 42], [42, 47, 48]), ([42, 49], [42, 49])])
def coupletlaw04_FracRules.B7 : List Nat := [0, 0, 3, 0, 0, 31, 63, 127, 255, 255, 1023, 255, 255, 8191, 16383, 32767, 65535, 131071, 131071, 524287, 131071, 2097151, 131071, 131071, 131071, 29360127, 67108863, 134217727, 268435455, 536870911, 1073741823, 1073741823, 4294967295, 1073741823, 17179869183, 1073741823, 1073741823, 1073741823, 240518168575, 549755813887, 1099511627775, 2199023255551, 4398046511103, 8796093022207, 8796093022207, 35184372088831, 8796093022207, 140737488355327, 8796093022207, 562949953421311, 1125899906842623]
theorem coupletlaw04_FracRules.tab7 : rtab .any (opsOf Try.f8 7) = coupletlaw04_FracRules.T7 := by kernel_rfl
theorem coupletlaw04_FracRules.bits7 : waitsOk coupletlaw04_FracRules.T7.2 coupletlaw04_FracRules.B7 = true := by kernel_rfl
def coupletlaw04_FracRules.T9 : Bool × List (List Nat × List Nat) := (true, [([], []), ([0], [0]), ([1], [1]), ([2], [2]), ([3], [3]), ([3], [3]), ([4, 5, 3, 3], [3, 4, 5]), ([3], [3]), ([6, 7, 6, 3], [3, 6, 7]), ([3], [3]), ([8, 9, 3], [3, 8, 9]), ([3, 10], [3, 10]), ([11, 8], [11]), ([12], [12]), ([12], [12]), ([12], [12]), ([14, 15, 12, 12], [12, 14, 15]), ([13, 16, 16, 12], [12, 13, 16]), ([12], [12]), ([12], [12]), ([18, 19, 17, 12], [12, 18, 19]), ([12], [12]), ([12], [12]), ([21, 22, 20, 12], [12, 21, 22]), ([20, 23, 23, 12], [12, 20, 23]), ([17, 24, 12], [12, 17, 24]), ([12, 25], [12, 25]), ([26, 24], [26]), ([27], [27]), ([28, 27, 27], [27, 28]), ([29, 29, 27], [27, 29]), ([27], [27]), ([30, 31, 27], [27, 30, 31]), ([27, 32], [27, 32]), ([33, 30], [33]), ([34, 34], [34]), ([34, 35], [34, 35]), ([36, 35, 0, 1, 2, 3, 4, 5, 6, 7, 8, 9, 10, 11, 12, 13, 14, 15, 16, 17, 18, 19, 20, 21, 22, 23, 24, 25, 26, 27, 28, 29, 30, 31, 32, 33, 34, 35, 36], [36])])
def coupletlaw04_FracRules.B9 : List Nat := [0, 1, 3, 7, 15, 15, 63, 15, 255, 15, 1023, 2047, 4095, 8191, 8191, 8191, 57343, 131071, 8191, 8191, 1048575, 8191, 8191, 8388607, 16777215, 33554431, 67108863, 134217727, 268435455, 536870911, 1073741823, 268435455, 4294967295, 8589934591, 17179869183, 34359738367, 68719476735, 137438953471]
theorem coupletlaw04_FracRules.tab9 : rtab .any (opsOf Try.f8 9) = coupletlaw04_FracRules.T9 := by kernel_rfl
theorem coupletlaw04_FracRules.bits9 : waitsOk coupletlaw04_FracRules.T9.2 coupletlaw04_FracRules.B9 = true := by kernel_rfl
set_option maxHeartbeats 16000000 in
set_option maxRecDepth 100000 in
theorem coupletlaw04_FracRules.calls (k : Nat) (a0_0 : Int) (a0_1 : Int) (a0_2 : Bool) (a1_0 : Int) (a1_1 : Int) (a1_2 : Bool) (a2_0 : Int) (a2_1 : Int) (a2_2 : Bool) (r : Bool) (w : World) (hr : r = true) (h : (Fr.fineP a0_0 a0_1 a0_2 = true ∧ -128 ≤ a0_0 ∧ a0_0 ≤ 128 ∧ a0_1 ≤ 128) ∧ (Fr.fineP a1_0 a1_1 a1_2 = true ∧ -128 ≤ a1_0 ∧ a1_0 ≤ 128 ∧ a1_1 ≤ 128) ∧ (Fr.fineP a2_0 a2_1 a2_2 = true ∧ -128 ≤ a2_0 ∧ a2_0 ≤ 128 ∧ a2_1 ≤ 128) → coupletlaw04_FracRules.f k a0_0 a0_1 a0_2 a1_0 a1_1 a1_2 a2_0 a2_1 a2_2 = some r) (hk : 4611686018427387912 ≤ k) :
    Calls Try.prog 8 #[.agg #[.int .i64 a0_0, .int .i64 a0_1, .bool a0_2], .agg #[.int .i64 a1_0, .int .i64 a1_1, .bool a1_2], .agg #[.int .i64 a2_0, .int .i64 a2_1, .bool a2_2]] w fun e w' => e = .returned (.bool r) ∧ Below w.heap.size w w' := by
 have hu23 := Try.underlying23
 have HB := Aside0.mk (Below.refl w.heap.size w)
 have HH := Aside0.mk h
 have HK := Aside0.mk hk
 clear h hk
 go_enter Try.func8, Try.ntmps8
 go_upto_region 1 with (first | ((with_reducible refine gate_dst (N := 3) rfl ?_); refine box_event ?hg (N := 3) ?hd (cs := #[.int .i64 a0_0, .int .i64 a0_1, .bool a0_2]) (t := 23) ?hr ?_; (case hd => rfl); (case hg => rfl); (case hr => first | (go_simp; done) | (go_simp; rfl)); intro gb397 hg w5 hbox hb; have n0_ := Aside0.mk (below_step (by repeat (first | (with_reducible first | exact HB.out | apply below_alloc | apply pw_below_drewN | apply below_drew1) | exact HB.out)) hb); have n1_ := Aside0.mk (hbox); have n2_ := Aside0.mk ((by rw [hg]; exact (below_size (by repeat (first | (with_reducible first | exact HB.out | apply below_alloc | apply pw_below_drewN | apply below_drew1) | exact HB.out))) : w.heap.size ≤ gb397)); have n3_ := Aside0.mk ((by rw [hg]; exact (below_size (by repeat (first | (with_reducible first | exact HB.out | apply below_alloc | apply pw_below_drewN | apply below_drew1) | exact HB.out))) : w.heap.size ≤ gb397)); clear HB; have HB := n0_; have BK397 := n1_; have GW397 := n2_; have GE397 := n3_; clear n0_ n1_ n2_ n3_; clear hb hbox hg) | ((with_reducible refine gate_dst (N := 4) rfl ?_); refine box_event ?hg (N := 4) ?hd (cs := #[.int .i64 a1_0, .int .i64 a1_1, .bool a1_2]) (t := 23) ?hr ?_; (case hd => rfl); (case hg => rfl); (case hr => first | (go_simp; done) | (go_simp; rfl)); intro gb398 hg w6 hbox hb; have n0_ := Aside0.mk (blk_below (g := gb397) (o := .cells #[.int .i64 a0_0, .int .i64 a0_1, .bool a0_2] 23 (0, 0)) (by (with_reducible repeat (first | refine blk_drewN ?_ _ | refine blk_drew ?_ | refine blk_alloc ?_ _)); exact BK397.out) hb); have n1_ := Aside0.mk (below_step (by repeat (first | (with_reducible first | exact HB.out | apply below_alloc | apply pw_below_drewN | apply below_drew1 | refine below_set ?_ GE397.out) | exact HB.out)) hb); have n2_ := Aside0.mk (hbox); have n3_ := Aside0.mk ((by rw [hg]; exact (below_size (by repeat (first | (with_reducible first | exact HB.out | apply below_alloc | apply pw_below_drewN | apply below_drew1 | refine below_set ?_ GE397.out) | exact HB.out))) : w.heap.size ≤ gb398)); have n4_ := Aside0.mk ((by rw [hg]; exact (below_size (by repeat (first | (with_reducible first | exact HB.out | apply below_alloc | apply pw_below_drewN | apply below_drew1 | refine below_set ?_ GE397.out) | exact HB.out))) : w.heap.size ≤ gb398)); have n5_ := Aside0.mk ((by rw [hg]; exact Nat.ne_of_lt (blk_lt (g := gb397) (o := .cells #[.int .i64 a0_0, .int .i64 a0_1, .bool a0_2] 23 (0, 0)) (by (with_reducible repeat (first | refine blk_drewN ?_ _ | refine blk_drew ?_ | refine blk_alloc ?_ _)); exact BK397.out)) : gb397 ≠ gb398)); have n6_ := Aside0.mk ((by rw [hg]; exact Nat.ne_of_gt (blk_lt (g := gb397) (o := .cells #[.int .i64 a0_0, .int .i64 a0_1, .bool a0_2] 23 (0, 0)) (by (with_reducible repeat (first | refine blk_drewN ?_ _ | refine blk_drew ?_ | refine blk_alloc ?_ _)); exact BK397.out)) : gb398 ≠ gb397)); clear BK397; clear HB; have BK397 := n0_; have HB := n1_; have BK398 := n2_; have GW398 := n3_; have GE398 := n4_; have NB397_398 := n5_; have NB398_397 := n6_; clear n0_ n1_ n2_ n3_ n4_ n5_ n6_; clear hb hbox hg) | ((with_reducible refine gate_dst (N := 5) rfl ?_); refine box_event ?hg (N := 5) ?hd (cs := #[.int .i64 a2_0, .int .i64 a2_1, .bool a2_2]) (t := 23) ?hr ?_; (case hd => rfl); (case hg => rfl); (case hr => first | (go_simp; done) | (go_simp; rfl)); intro gb399 hg w7 hbox hb; have n0_ := Aside0.mk (blk_below (g := gb397) (o := .cells #[.int .i64 a0_0, .int .i64 a0_1, .bool a0_2] 23 (0, 0)) (by (with_reducible repeat (first | refine blk_drewN ?_ _ | refine blk_drew ?_ | refine blk_alloc ?_ _)); exact BK397.out) hb); have n1_ := Aside0.mk (blk_below (g := gb398) (o := .cells #[.int .i64 a1_0, .int .i64 a1_1, .bool a1_2] 23 (0, 0)) (by (with_reducible repeat (first | refine blk_drewN ?_ _ | refine blk_drew ?_ | refine blk_alloc ?_ _)); exact BK398.out) hb); have n2_ := Aside0.mk (below_step (by repeat (first | (with_reducible first | exact HB.out | apply below_alloc | apply pw_below_drewN | apply below_drew1 | refine below_set ?_ GE397.out | refine below_set ?_ GE398.out) | exact HB.out)) hb); have n3_ := Aside0.mk (hbox); have n4_ := Aside0.mk ((by rw [hg]; exact (below_size (by repeat (first | (with_reducible first | exact HB.out | apply below_alloc | apply pw_below_drewN | apply below_drew1 | refine below_set ?_ GE397.out | refine below_set ?_ GE398.out) | exact HB.out))) : w.heap.size ≤ gb399)); have n5_ := Aside0.mk ((by rw [hg]; exact (below_size (by repeat (first | (with_reducible first | exact HB.out | apply below_alloc | apply pw_below_drewN | apply below_drew1 | refine below_set ?_ GE397.out | refine below_set ?_ GE398.out) | exact HB.out))) : w.heap.size ≤ gb399)); have n6_ := Aside0.mk ((by rw [hg]; exact Nat.ne_of_lt (blk_lt (g := gb397) (o := .cells #[.int .i64 a0_0, .int .i64 a0_1, .bool a0_2] 23 (0, 0)) (by (with_reducible repeat (first | refine blk_drewN ?_ _ | refine blk_drew ?_ | refine blk_alloc ?_ _)); exact BK397.out)) : gb397 ≠ gb399)); have n7_ := Aside0.mk ((by rw [hg]; exact Nat.ne_of_gt (blk_lt (g := gb397) (o := .cells #[.int .i64 a0_0, .int .i64 a0_1, .bool a0_2] 23 (0, 0)) (by (with_reducible repeat (first | refine blk_drewN ?_ _ | refine blk_drew ?_ | refine blk_alloc ?_ _)); exact BK397.out)) : gb399 ≠ gb397)); have n8_ := Aside0.mk ((by rw [hg]; exact Nat.ne_of_lt (blk_lt (g := gb398) (o := .cells #[.int .i64 a1_0, .int .i64 a1_1, .bool a1_2] 23 (0, 0)) (by (with_reducible repeat (first | refine blk_drewN ?_ _ | refine blk_drew ?_ | refine blk_alloc ?_ _)); exact BK398.out)) : gb398 ≠ gb399)); have n9_ := Aside0.mk ((by rw [hg]; exact Nat.ne_of_gt (blk_lt (g := gb398) (o := .cells #[.int .i64 a1_0, .int .i64 a1_1, .bool a1_2] 23 (0, 0)) (by (with_reducible repeat (first | refine blk_drewN ?_ _ | refine blk_drew ?_ | refine blk_alloc ?_ _)); exact BK398.out)) : gb399 ≠ gb398)); clear BK397; clear BK398; clear HB; have BK397 := n0_; have BK398 := n1_; have HB := n2_; have BK399 := n3_; have GW399 := n4_; have GE399 := n5_; have NB397_399 := n6_; have NB399_397 := n7_; have NB398_399 := n8_; have NB399_398 := n9_; clear n0_ n1_ n2_ n3_ n4_ n5_ n6_ n7_ n8_ n9_; clear hb hbox hg))
 (try simp only [Act.put, List.setIfInBounds_toArray, List.set_cons_zero, List.set_cons_succ])
 have hcxq0_0 : w7.cell? ⟨gb397, 0, none⟩ = some (.int .i64 a0_0) := (blk_cell BK397.out 0).trans rfl
 have hfxq0_0 := blk_frozen BK397.out 0
 have hcxq0_1 : w7.cell? ⟨gb397, 1, none⟩ = some (.int .i64 a0_1) := (blk_cell BK397.out 1).trans rfl
 have hfxq0_1 := blk_frozen BK397.out 1
 have hcxq0_2 : w7.cell? ⟨gb397, 2, none⟩ = some (.bool a0_2) := (blk_cell BK397.out 2).trans rfl
 have hfxq0_2 := blk_frozen BK397.out 2
 have hcxq1_0 : w7.cell? ⟨gb398, 0, none⟩ = some (.int .i64 a1_0) := (blk_cell BK398.out 0).trans rfl
 have hfxq1_0 := blk_frozen BK398.out 0
 have hcxq1_1 : w7.cell? ⟨gb398, 1, none⟩ = some (.int .i64 a1_1) := (blk_cell BK398.out 1).trans rfl
 have hfxq1_1 := blk_frozen BK398.out 1
 have hcxq1_2 : w7.cell? ⟨gb398, 2, none⟩ = some (.bool a1_2) := (blk_cell BK398.out 2).trans rfl
 have hfxq1_2 := blk_frozen BK398.out 2
 have hcxq2_0 : w7.cell? ⟨gb399, 0, none⟩ = some (.int .i64 a2_0) := (blk_cell BK399.out 0).trans rfl
 have hfxq2_0 := blk_frozen BK399.out 0
 have hcxq2_1 : w7.cell? ⟨gb399, 1, none⟩ = some (.int .i64 a2_1) := (blk_cell BK399.out 1).trans rfl
 have hfxq2_1 := blk_frozen BK399.out 1
 have hcxq2_2 : w7.cell? ⟨gb399, 2, none⟩ = some (.bool a2_2) := (blk_cell BK399.out 2).trans rfl
 have hfxq2_2 := blk_frozen BK399.out 2
 have hnA := NB397_398.out
 have hnB := NB397_399.out
 have hnC := NB398_399.out
 go_wp2_with fail
 go_loopg [13] 3 (fun d v13 w' => ∃ (i : Int), v13 = .int .i64 i ∧ Aside0 (0 ≤ i ∧ i + d = 3) ∧ Aside0 ((1 ≤ i → (Fr.fineP a0_0 a0_1 a0_2 = true ∧ -128 ≤ a0_0 ∧ a0_0 ≤ 128 ∧ a0_1 ≤ 128)) ∧ (2 ≤ i → (Fr.fineP a1_0 a1_1 a1_2 = true ∧ -128 ≤ a1_0 ∧ a1_0 ≤ 128 ∧ a1_1 ≤ 128)) ∧ (3 ≤ i → (Fr.fineP a2_0 a2_1 a2_2 = true ∧ -128 ≤ a2_0 ∧ a2_0 ≤ 128 ∧ a2_1 ≤ 128))) ∧ Aside0 (w'.heap[gb397]? = some (.cells #[.int .i64 a0_0, .int .i64 a0_1, .bool a0_2] 23 (0, 0))) ∧ Aside0 (w'.heap[gb398]? = some (.cells #[.int .i64 a1_0, .int .i64 a1_1, .bool a1_2] 23 (0, 0))) ∧ Aside0 (w'.heap[gb399]? = some (.cells #[.int .i64 a2_0, .int .i64 a2_1, .bool a2_2] 23 (0, 0))) ∧ Aside0 (Below w.heap.size w w'))
 case atStart => exact ⟨0, rfl, ⟨by omega, by omega⟩, ⟨fun h => absurd h (by omega), fun h => absurd h (by omega), fun h => absurd h (by omega)⟩, ⟨by (with_reducible repeat (first | refine blk_drewN ?_ _ | refine blk_drew ?_ | refine blk_alloc ?_ _)); exact BK397.out⟩, ⟨by (with_reducible repeat (first | refine blk_drewN ?_ _ | refine blk_drew ?_ | refine blk_alloc ?_ _)); exact BK398.out⟩, ⟨by (with_reducible repeat (first | refine blk_drewN ?_ _ | refine blk_drew ?_ | refine blk_alloc ?_ _)); exact BK399.out⟩, ⟨by repeat (first | (with_reducible first | exact HB.out | apply below_alloc | apply pw_below_drewN | apply below_drew1 | refine below_set ?_ GE397.out | refine below_set ?_ GE398.out | refine below_set ?_ GE399.out) | exact HB.out)⟩⟩
 case round =>
  try clear hcxq0_0 hfxq0_0
  try clear hcxq0_1 hfxq0_1
  try clear hcxq0_2 hfxq0_2
  try clear hcxq1_0 hfxq1_0
  try clear hcxq1_1 hfxq1_1
  try clear hcxq1_2 hfxq1_2
  try clear hcxq2_0 hfxq2_0
  try clear hcxq2_1 hfxq2_1
  try clear hcxq2_2 hfxq2_2
  clear BK397 BK398 BK399 HB
  obtain ⟨i, rfl, HI, HP, BK397, BK398, BK399, HB⟩ := hrel
  have hi : i = 0 ∨ i = 1 ∨ i = 2 ∨ i = 3 := by have := HI.out; omega
  rcases hi with rfl | rfl | rfl | rfl
  ·
   go_upto_region 4 with (((with_reducible refine gate_dst (N := 8) rfl ?_); refine box_event ?hg (N := 8) ?hd (cs := #[.int .i64 0, .int .i64 0, .bool false]) (t := 23) ?hr ?_; (case hd => rfl); (case hg => rfl); (case hr => first | (go_simp; done) | (go_simp; rfl)); intro gz hg wz hbox hb; have n0_ := Aside0.mk (blk_below (g := gb397) (o := .cells #[.int .i64 a0_0, .int .i64 a0_1, .bool a0_2] 23 (0, 0)) (by (with_reducible repeat (first | refine blk_drewN ?_ _ | refine blk_drew ?_ | refine blk_alloc ?_ _)); exact BK397.out) hb); have n1_ := Aside0.mk (blk_below (g := gb398) (o := .cells #[.int .i64 a1_0, .int .i64 a1_1, .bool a1_2] 23 (0, 0)) (by (with_reducible repeat (first | refine blk_drewN ?_ _ | refine blk_drew ?_ | refine blk_alloc ?_ _)); exact BK398.out) hb); have n2_ := Aside0.mk (blk_below (g := gb399) (o := .cells #[.int .i64 a2_0, .int .i64 a2_1, .bool a2_2] 23 (0, 0)) (by (with_reducible repeat (first | refine blk_drewN ?_ _ | refine blk_drew ?_ | refine blk_alloc ?_ _)); exact BK399.out) hb); have n3_ := Aside0.mk (below_step (by repeat (first | (with_reducible first | exact HB.out | apply below_alloc | apply pw_below_drewN | apply below_drew1 | refine below_set ?_ GE397.out | refine below_set ?_ GE398.out | refine below_set ?_ GE399.out) | exact HB.out)) hb); have n4_ := Aside0.mk hbox; have n5_ := Aside0.mk (by rw [hg]; exact below_size (by repeat (first | (with_reducible first | exact HB.out | apply below_alloc | apply pw_below_drewN | apply below_drew1 | refine below_set ?_ GE397.out | refine below_set ?_ GE398.out | refine below_set ?_ GE399.out) | exact HB.out)) : w.heap.size ≤ gz); have n6_ := Aside0.mk (by rw [hg]; exact Nat.ne_of_lt (blk_lt (g := gb397) (o := .cells #[.int .i64 a0_0, .int .i64 a0_1, .bool a0_2] 23 (0, 0)) (by (with_reducible repeat (first | refine blk_drewN ?_ _ | refine blk_drew ?_ | refine blk_alloc ?_ _)); exact BK397.out)) : gb397 ≠ gz); have n7_ := Aside0.mk (by rw [hg]; exact Nat.ne_of_lt (blk_lt (g := gb398) (o := .cells #[.int .i64 a1_0, .int .i64 a1_1, .bool a1_2] 23 (0, 0)) (by (with_reducible repeat (first | refine blk_drewN ?_ _ | refine blk_drew ?_ | refine blk_alloc ?_ _)); exact BK398.out)) : gb398 ≠ gz); have n8_ := Aside0.mk (by rw [hg]; exact Nat.ne_of_lt (blk_lt (g := gb399) (o := .cells #[.int .i64 a2_0, .int .i64 a2_1, .bool a2_2] 23 (0, 0)) (by (with_reducible repeat (first | refine blk_drewN ?_ _ | refine blk_drew ?_ | refine blk_alloc ?_ _)); exact BK399.out)) : gb399 ≠ gz); clear BK397 BK398 BK399 HB hb hbox hg; have BK397 := n0_; have BK398 := n1_; have BK399 := n2_; have HB := n3_; have BKz := n4_; have GEz := n5_; have NZ0 := n6_; have NZ1 := n7_; have NZ2 := n8_; clear n0_ n1_ n2_ n3_ n4_ n5_ n6_ n7_ n8_; have hz0 : wz.cell? ⟨gz, 0, none⟩ = some (.int .i64 0) := (blk_cell BKz.out 0).trans rfl; have hzf0 := blk_frozen BKz.out 0; have hz1 : wz.cell? ⟨gz, 1, none⟩ = some (.int .i64 0) := (blk_cell BKz.out 1).trans rfl; have hzf1 := blk_frozen BKz.out 1; have hz2 : wz.cell? ⟨gz, 2, none⟩ = some (.bool false) := (blk_cell BKz.out 2).trans rfl; have hzf2 := blk_frozen BKz.out 2))
   (try simp only [Act.put, List.setIfInBounds_toArray, List.set_cons_zero, List.set_cons_succ])
   have AF := Aside0.mk (Fr.lawfine_eq (k := k) (n := a0_0) (d := a0_1) (bad := a0_2) HK.out)
   by_cases f1 : Fr.fineP a0_0 a0_1 a0_2 = true
   ·
    rw [f1] at AF
    by_cases f2 : a0_0 < -128
    ·
     have d2 : decide (a0_0 < -128) = true := decide_eq_true f2
     go_wp2_with (first | ((with_reducible refine gate_callee (f := 13) rfl ?_); refine goesL_ (some 17) rfl rfl Try.func13 (by kernel_rfl) rfl #[.agg #[.int .i64 a0_0, .int .i64 a0_1, .bool a0_2]] rfl (by (try simp only [List.map_toArray, List.map_cons, List.map_nil]); first | done | rfl | (simp only [List.length_drop, List.length_take]; rfl)) ?_; (with_reducible refine (coupletlaw04_fine.calls k a0_0 a0_1 a0_2 true _ AF.out).mono ?_); rintro e wf ⟨rfl, hb⟩; refine ⟨_, rfl, ?_⟩; have n0_ := Aside0.mk (blk_below (g := gb397) (o := .cells #[.int .i64 a0_0, .int .i64 a0_1, .bool a0_2] 23 (0, 0)) (by (repeat (first | (with_reducible first | refine blk_drewN ?_ _ | refine blk_drew ?_ | refine blk_alloc ?_ _) | refine blk_far ?_ NZ0.out _)); exact BK397.out) hb); have n1_ := Aside0.mk (blk_below (g := gb398) (o := .cells #[.int .i64 a1_0, .int .i64 a1_1, .bool a1_2] 23 (0, 0)) (by (repeat (first | (with_reducible first | refine blk_drewN ?_ _ | refine blk_drew ?_ | refine blk_alloc ?_ _) | refine blk_far ?_ NZ1.out _)); exact BK398.out) hb); have n2_ := Aside0.mk (blk_below (g := gb399) (o := .cells #[.int .i64 a2_0, .int .i64 a2_1, .bool a2_2] 23 (0, 0)) (by (repeat (first | (with_reducible first | refine blk_drewN ?_ _ | refine blk_drew ?_ | refine blk_alloc ?_ _) | refine blk_far ?_ NZ2.out _)); exact BK399.out) hb); have n3_ := Aside0.mk (below_step (by repeat (first | (with_reducible first | exact HB.out | apply below_alloc | apply pw_below_drewN | apply below_drew1 | refine below_set ?_ GE397.out | refine below_set ?_ GE398.out | refine below_set ?_ GE399.out | refine below_set ?_ GEz.out) | exact HB.out)) hb); have n4_ := Aside0.mk (blk_below (g := gz) (o := .cells #[.int .i64 a0_0, .int .i64 a0_1, .bool a0_2] 23 (0, 0)) (by (with_reducible repeat (first | refine blk_drewN ?_ _ | refine blk_drew ?_ | refine blk_alloc ?_ _)); refine blk_put (cs := #[.int .i64 a0_0, .int .i64 a0_1, .bool false]) ?_ 2 _ rfl; (with_reducible repeat (first | refine blk_drewN ?_ _ | refine blk_drew ?_ | refine blk_alloc ?_ _)); refine blk_put (cs := #[.int .i64 a0_0, .int .i64 0, .bool false]) ?_ 1 _ rfl; (with_reducible repeat (first | refine blk_drewN ?_ _ | refine blk_drew ?_ | refine blk_alloc ?_ _)); refine blk_put (cs := #[.int .i64 0, .int .i64 0, .bool false]) ?_ 0 _ rfl; (with_reducible repeat (first | refine blk_drewN ?_ _ | refine blk_drew ?_ | refine blk_alloc ?_ _)); exact BKz.out) hb); clear BK397 BK398 BK399 HB BKz hb; have BK397 := n0_; have BK398 := n1_; have BK399 := n2_; have HB := n3_; have BKz := n4_; clear n0_ n1_ n2_ n3_ n4_; have hy0 : wf.cell? ⟨gz, 0, none⟩ = some (.int .i64 a0_0) := (blk_cell BKz.out 0).trans rfl; have hyf0 := blk_frozen BKz.out 0; have hy1 : wf.cell? ⟨gz, 1, none⟩ = some (.int .i64 a0_1) := (blk_cell BKz.out 1).trans rfl; have hyf1 := blk_frozen BKz.out 1; have hy2 : wf.cell? ⟨gz, 2, none⟩ = some (.bool a0_2) := (blk_cell BKz.out 2).trans rfl; have hyf2 := blk_frozen BKz.out 2) | ((with_reducible refine gate_callee (f := 12) rfl ?_); refine goesL_ (some 34) rfl rfl Try.func12 (by kernel_rfl) rfl #[] rfl (by (try simp only [List.map_toArray, List.map_cons, List.map_nil]); first | done | rfl | (simp only [List.length_drop, List.length_take]; rfl)) ?_; (with_reducible refine (coupletlaw04_awake.calls 90 true _ coupletlaw04_awake.some_).mono ?_); rintro e wa ⟨rfl, hb⟩; refine ⟨_, rfl, ?_⟩; have n3_ := Aside0.mk (below_step (by repeat (first | (with_reducible first | exact HB.out | apply below_alloc | apply pw_below_drewN | apply below_drew1 | refine below_set ?_ GE397.out | refine below_set ?_ GE398.out | refine below_set ?_ GE399.out | refine below_set ?_ GEz.out) | exact HB.out)) hb); clear HB hb; have HB := n3_; clear n3_))
     go_ret
     exact ⟨by subst hr; first | rfl | (simp; done), (by repeat (first | (with_reducible first | exact HB.out | apply below_alloc | apply pw_below_drewN | apply below_drew1 | refine below_set ?_ GE397.out | refine below_set ?_ GE398.out | refine below_set ?_ GE399.out | refine below_set ?_ GEz.out) | exact HB.out))⟩
    ·
     have d2 : decide (a0_0 < -128) = false := decide_eq_false f2
     by_cases f3 : a0_0 > 128
     ·
      have d3 : decide (128 < a0_0) = true := decide_eq_true f3
      go_wp2_with (first | ((with_reducible refine gate_callee (f := 13) rfl ?_); refine goesL_ (some 17) rfl rfl Try.func13 (by kernel_rfl) rfl #[.agg #[.int .i64 a0_0, .int .i64 a0_1, .bool a0_2]] rfl (by (try simp only [List.map_toArray, List.map_cons, List.map_nil]); first | done | rfl | (simp only [List.length_drop, List.length_take]; rfl)) ?_; (with_reducible refine (coupletlaw04_fine.calls k a0_0 a0_1 a0_2 true _ AF.out).mono ?_); rintro e wf ⟨rfl, hb⟩; refine ⟨_, rfl, ?_⟩; have n0_ := Aside0.mk (blk_below (g := gb397) (o := .cells #[.int .i64 a0_0, .int .i64 a0_1, .bool a0_2] 23 (0, 0)) (by (repeat (first | (with_reducible first | refine blk_drewN ?_ _ | refine blk_drew ?_ | refine blk_alloc ?_ _) | refine blk_far ?_ NZ0.out _)); exact BK397.out) hb); have n1_ := Aside0.mk (blk_below (g := gb398) (o := .cells #[.int .i64 a1_0, .int .i64 a1_1, .bool a1_2] 23 (0, 0)) (by (repeat (first | (with_reducible first | refine blk_drewN ?_ _ | refine blk_drew ?_ | refine blk_alloc ?_ _) | refine blk_far ?_ NZ1.out _)); exact BK398.out) hb); have n2_ := Aside0.mk (blk_below (g := gb399) (o := .cells #[.int .i64 a2_0, .int .i64 a2_1, .bool a2_2] 23 (0, 0)) (by (repeat (first | (with_reducible first | refine blk_drewN ?_ _ | refine blk_drew ?_ | refine blk_alloc ?_ _) | refine blk_far ?_ NZ2.out _)); exact BK399.out) hb); have n3_ := Aside0.mk (below_step (by repeat (first | (with_reducible first | exact HB.out | apply below_alloc | apply pw_below_drewN | apply below_drew1 | refine below_set ?_ GE397.out | refine below_set ?_ GE398.out | refine below_set ?_ GE399.out | refine below_set ?_ GEz.out) | exact HB.out)) hb); have n4_ := Aside0.mk (blk_below (g := gz) (o := .cells #[.int .i64 a0_0, .int .i64 a0_1, .bool a0_2] 23 (0, 0)) (by (with_reducible repeat (first | refine blk_drewN ?_ _ | refine blk_drew ?_ | refine blk_alloc ?_ _)); refine blk_put (cs := #[.int .i64 a0_0, .int .i64 a0_1, .bool false]) ?_ 2 _ rfl; (with_reducible repeat (first | refine blk_drewN ?_ _ | refine blk_drew ?_ | refine blk_alloc ?_ _)); refine blk_put (cs := #[.int .i64 a0_0, .int .i64 0, .bool false]) ?_ 1 _ rfl; (with_reducible repeat (first | refine blk_drewN ?_ _ | refine blk_drew ?_ | refine blk_alloc ?_ _)); refine blk_put (cs := #[.int .i64 0, .int .i64 0, .bool false]) ?_ 0 _ rfl; (with_reducible repeat (first | refine blk_drewN ?_ _ | refine blk_drew ?_ | refine blk_alloc ?_ _)); exact BKz.out) hb); clear BK397 BK398 BK399 HB BKz hb; have BK397 := n0_; have BK398 := n1_; have BK399 := n2_; have HB := n3_; have BKz := n4_; clear n0_ n1_ n2_ n3_ n4_; have hy0 : wf.cell? ⟨gz, 0, none⟩ = some (.int .i64 a0_0) := (blk_cell BKz.out 0).trans rfl; have hyf0 := blk_frozen BKz.out 0; have hy1 : wf.cell? ⟨gz, 1, none⟩ = some (.int .i64 a0_1) := (blk_cell BKz.out 1).trans rfl; have hyf1 := blk_frozen BKz.out 1; have hy2 : wf.cell? ⟨gz, 2, none⟩ = some (.bool a0_2) := (blk_cell BKz.out 2).trans rfl; have hyf2 := blk_frozen BKz.out 2) | ((with_reducible refine gate_callee (f := 12) rfl ?_); refine goesL_ (some 34) rfl rfl Try.func12 (by kernel_rfl) rfl #[] rfl (by (try simp only [List.map_toArray, List.map_cons, List.map_nil]); first | done | rfl | (simp only [List.length_drop, List.length_take]; rfl)) ?_; (with_reducible refine (coupletlaw04_awake.calls 90 true _ coupletlaw04_awake.some_).mono ?_); rintro e wa ⟨rfl, hb⟩; refine ⟨_, rfl, ?_⟩; have n3_ := Aside0.mk (below_step (by repeat (first | (with_reducible first | exact HB.out | apply below_alloc | apply pw_below_drewN | apply below_drew1 | refine below_set ?_ GE397.out | refine below_set ?_ GE398.out | refine below_set ?_ GE399.out | refine below_set ?_ GEz.out) | exact HB.out)) hb); clear HB hb; have HB := n3_; clear n3_))
      go_ret
      exact ⟨by subst hr; first | rfl | (simp; done), (by repeat (first | (with_reducible first | exact HB.out | apply below_alloc | apply pw_below_drewN | apply below_drew1 | refine below_set ?_ GE397.out | refine below_set ?_ GE398.out | refine below_set ?_ GE399.out | refine below_set ?_ GEz.out) | exact HB.out))⟩
     ·
      have d3 : decide (128 < a0_0) = false := decide_eq_false f3
      by_cases f4 : a0_1 > 128
      ·
       have d4 : decide (128 < a0_1) = true := decide_eq_true f4
       go_wp2_with (first | ((with_reducible refine gate_callee (f := 13) rfl ?_); refine goesL_ (some 17) rfl rfl Try.func13 (by kernel_rfl) rfl #[.agg #[.int .i64 a0_0, .int .i64 a0_1, .bool a0_2]] rfl (by (try simp only [List.map_toArray, List.map_cons, List.map_nil]); first | done | rfl | (simp only [List.length_drop, List.length_take]; rfl)) ?_; (with_reducible refine (coupletlaw04_fine.calls k a0_0 a0_1 a0_2 true _ AF.out).mono ?_); rintro e wf ⟨rfl, hb⟩; refine ⟨_, rfl, ?_⟩; have n0_ := Aside0.mk (blk_below (g := gb397) (o := .cells #[.int .i64 a0_0, .int .i64 a0_1, .bool a0_2] 23 (0, 0)) (by (repeat (first | (with_reducible first | refine blk_drewN ?_ _ | refine blk_drew ?_ | refine blk_alloc ?_ _) | refine blk_far ?_ NZ0.out _)); exact BK397.out) hb); have n1_ := Aside0.mk (blk_below (g := gb398) (o := .cells #[.int .i64 a1_0, .int .i64 a1_1, .bool a1_2] 23 (0, 0)) (by (repeat (first | (with_reducible first | refine blk_drewN ?_ _ | refine blk_drew ?_ | refine blk_alloc ?_ _) | refine blk_far ?_ NZ1.out _)); exact BK398.out) hb); have n2_ := Aside0.mk (blk_below (g := gb399) (o := .cells #[.int .i64 a2_0, .int .i64 a2_1, .bool a2_2] 23 (0, 0)) (by (repeat (first | (with_reducible first | refine blk_drewN ?_ _ | refine blk_drew ?_ | refine blk_alloc ?_ _) | refine blk_far ?_ NZ2.out _)); exact BK399.out) hb); have n3_ := Aside0.mk (below_step (by repeat (first | (with_reducible first | exact HB.out | apply below_alloc | apply pw_below_drewN | apply below_drew1 | refine below_set ?_ GE397.out | refine below_set ?_ GE398.out | refine below_set ?_ GE399.out | refine below_set ?_ GEz.out) | exact HB.out)) hb); have n4_ := Aside0.mk (blk_below (g := gz) (o := .cells #[.int .i64 a0_0, .int .i64 a0_1, .bool a0_2] 23 (0, 0)) (by (with_reducible repeat (first | refine blk_drewN ?_ _ | refine blk_drew ?_ | refine blk_alloc ?_ _)); refine blk_put (cs := #[.int .i64 a0_0, .int .i64 a0_1, .bool false]) ?_ 2 _ rfl; (with_reducible repeat (first | refine blk_drewN ?_ _ | refine blk_drew ?_ | refine blk_alloc ?_ _)); refine blk_put (cs := #[.int .i64 a0_0, .int .i64 0, .bool false]) ?_ 1 _ rfl; (with_reducible repeat (first | refine blk_drewN ?_ _ | refine blk_drew ?_ | refine blk_alloc ?_ _)); refine blk_put (cs := #[.int .i64 0, .int .i64 0, .bool false]) ?_ 0 _ rfl; (with_reducible repeat (first | refine blk_drewN ?_ _ | refine blk_drew ?_ | refine blk_alloc ?_ _)); exact BKz.out) hb); clear BK397 BK398 BK399 HB BKz hb; have BK397 := n0_; have BK398 := n1_; have BK399 := n2_; have HB := n3_; have BKz := n4_; clear n0_ n1_ n2_ n3_ n4_; have hy0 : wf.cell? ⟨gz, 0, none⟩ = some (.int .i64 a0_0) := (blk_cell BKz.out 0).trans rfl; have hyf0 := blk_frozen BKz.out 0; have hy1 : wf.cell? ⟨gz, 1, none⟩ = some (.int .i64 a0_1) := (blk_cell BKz.out 1).trans rfl; have hyf1 := blk_frozen BKz.out 1; have hy2 : wf.cell? ⟨gz, 2, none⟩ = some (.bool a0_2) := (blk_cell BKz.out 2).trans rfl; have hyf2 := blk_frozen BKz.out 2) | ((with_reducible refine gate_callee (f := 12) rfl ?_); refine goesL_ (some 34) rfl rfl Try.func12 (by kernel_rfl) rfl #[] rfl (by (try simp only [List.map_toArray, List.map_cons, List.map_nil]); first | done | rfl | (simp only [List.length_drop, List.length_take]; rfl)) ?_; (with_reducible refine (coupletlaw04_awake.calls 90 true _ coupletlaw04_awake.some_).mono ?_); rintro e wa ⟨rfl, hb⟩; refine ⟨_, rfl, ?_⟩; have n3_ := Aside0.mk (below_step (by repeat (first | (with_reducible first | exact HB.out | apply below_alloc | apply pw_below_drewN | apply below_drew1 | refine below_set ?_ GE397.out | refine below_set ?_ GE398.out | refine below_set ?_ GE399.out | refine below_set ?_ GEz.out) | exact HB.out)) hb); clear HB hb; have HB := n3_; clear n3_))
       go_ret
       exact ⟨by subst hr; first | rfl | (simp; done), (by repeat (first | (with_reducible first | exact HB.out | apply below_alloc | apply pw_below_drewN | apply below_drew1 | refine below_set ?_ GE397.out | refine below_set ?_ GE398.out | refine below_set ?_ GE399.out | refine below_set ?_ GEz.out) | exact HB.out))⟩
      ·
       have d4 : decide (128 < a0_1) = false := decide_eq_false f4
       have HG := Aside0.mk (show (Fr.fineP a0_0 a0_1 a0_2 = true ∧ -128 ≤ a0_0 ∧ a0_0 ≤ 128 ∧ a0_1 ≤ 128) from ⟨f1, by omega, by omega, by omega⟩)
       go_wp2_with ((with_reducible refine gate_callee (f := 13) rfl ?_); refine goesL_ (some 17) rfl rfl Try.func13 (by kernel_rfl) rfl #[.agg #[.int .i64 a0_0, .int .i64 a0_1, .bool a0_2]] rfl (by (try simp only [List.map_toArray, List.map_cons, List.map_nil]); first | done | rfl | (simp only [List.length_drop, List.length_take]; rfl)) ?_; (with_reducible refine (coupletlaw04_fine.calls k a0_0 a0_1 a0_2 true _ AF.out).mono ?_); rintro e wf ⟨rfl, hb⟩; refine ⟨_, rfl, ?_⟩; have n0_ := Aside0.mk (blk_below (g := gb397) (o := .cells #[.int .i64 a0_0, .int .i64 a0_1, .bool a0_2] 23 (0, 0)) (by (repeat (first | (with_reducible first | refine blk_drewN ?_ _ | refine blk_drew ?_ | refine blk_alloc ?_ _) | refine blk_far ?_ NZ0.out _)); exact BK397.out) hb); have n1_ := Aside0.mk (blk_below (g := gb398) (o := .cells #[.int .i64 a1_0, .int .i64 a1_1, .bool a1_2] 23 (0, 0)) (by (repeat (first | (with_reducible first | refine blk_drewN ?_ _ | refine blk_drew ?_ | refine blk_alloc ?_ _) | refine blk_far ?_ NZ1.out _)); exact BK398.out) hb); have n2_ := Aside0.mk (blk_below (g := gb399) (o := .cells #[.int .i64 a2_0, .int .i64 a2_1, .bool a2_2] 23 (0, 0)) (by (repeat (first | (with_reducible first | refine blk_drewN ?_ _ | refine blk_drew ?_ | refine blk_alloc ?_ _) | refine blk_far ?_ NZ2.out _)); exact BK399.out) hb); have n3_ := Aside0.mk (below_step (by repeat (first | (with_reducible first | exact HB.out | apply below_alloc | apply pw_below_drewN | apply below_drew1 | refine below_set ?_ GE397.out | refine below_set ?_ GE398.out | refine below_set ?_ GE399.out | refine below_set ?_ GEz.out) | exact HB.out)) hb); have n4_ := Aside0.mk (blk_below (g := gz) (o := .cells #[.int .i64 a0_0, .int .i64 a0_1, .bool a0_2] 23 (0, 0)) (by (with_reducible repeat (first | refine blk_drewN ?_ _ | refine blk_drew ?_ | refine blk_alloc ?_ _)); refine blk_put (cs := #[.int .i64 a0_0, .int .i64 a0_1, .bool false]) ?_ 2 _ rfl; (with_reducible repeat (first | refine blk_drewN ?_ _ | refine blk_drew ?_ | refine blk_alloc ?_ _)); refine blk_put (cs := #[.int .i64 a0_0, .int .i64 0, .bool false]) ?_ 1 _ rfl; (with_reducible repeat (first | refine blk_drewN ?_ _ | refine blk_drew ?_ | refine blk_alloc ?_ _)); refine blk_put (cs := #[.int .i64 0, .int .i64 0, .bool false]) ?_ 0 _ rfl; (with_reducible repeat (first | refine blk_drewN ?_ _ | refine blk_drew ?_ | refine blk_alloc ?_ _)); exact BKz.out) hb); clear BK397 BK398 BK399 HB BKz hb; have BK397 := n0_; have BK398 := n1_; have BK399 := n2_; have HB := n3_; have BKz := n4_; clear n0_ n1_ n2_ n3_ n4_; have hy0 : wf.cell? ⟨gz, 0, none⟩ = some (.int .i64 a0_0) := (blk_cell BKz.out 0).trans rfl; have hyf0 := blk_frozen BKz.out 0; have hy1 : wf.cell? ⟨gz, 1, none⟩ = some (.int .i64 a0_1) := (blk_cell BKz.out 1).trans rfl; have hyf1 := blk_frozen BKz.out 1; have hy2 : wf.cell? ⟨gz, 2, none⟩ = some (.bool a0_2) := (blk_cell BKz.out 2).trans rfl; have hyf2 := blk_frozen BKz.out 2)
       go_roundg (gk - 1)
       case measure => have := HI.out; omega
       case rel => exact ⟨1, (by first | rfl | (simp; done)), ⟨by omega, by have := HI.out; omega⟩, ⟨fun _ => HG.out, fun h => absurd h (by omega), fun h => absurd h (by omega)⟩, ⟨(by (repeat (first | (with_reducible first | refine blk_drewN ?_ _ | refine blk_drew ?_ | refine blk_alloc ?_ _) | refine blk_far ?_ NZ0.out _)); exact BK397.out)⟩, ⟨(by (repeat (first | (with_reducible first | refine blk_drewN ?_ _ | refine blk_drew ?_ | refine blk_alloc ?_ _) | refine blk_far ?_ NZ1.out _)); exact BK398.out)⟩, ⟨(by (repeat (first | (with_reducible first | refine blk_drewN ?_ _ | refine blk_drew ?_ | refine blk_alloc ?_ _) | refine blk_far ?_ NZ2.out _)); exact BK399.out)⟩, ⟨by repeat (first | (with_reducible first | exact HB.out | apply below_alloc | apply pw_below_drewN | apply below_drew1 | refine below_set ?_ GE397.out | refine below_set ?_ GE398.out | refine below_set ?_ GE399.out | refine below_set ?_ GEz.out) | exact HB.out)⟩⟩
   ·
    have f1' : Fr.fineP a0_0 a0_1 a0_2 = false := by simpa using f1
    rw [f1'] at AF
    go_wp2_with (first | ((with_reducible refine gate_callee (f := 13) rfl ?_); refine goesL_ (some 17) rfl rfl Try.func13 (by kernel_rfl) rfl #[.agg #[.int .i64 a0_0, .int .i64 a0_1, .bool a0_2]] rfl (by (try simp only [List.map_toArray, List.map_cons, List.map_nil]); first | done | rfl | (simp only [List.length_drop, List.length_take]; rfl)) ?_; (with_reducible refine (coupletlaw04_fine.calls k a0_0 a0_1 a0_2 false _ AF.out).mono ?_); rintro e wf ⟨rfl, hb⟩; refine ⟨_, rfl, ?_⟩; have n0_ := Aside0.mk (blk_below (g := gb397) (o := .cells #[.int .i64 a0_0, .int .i64 a0_1, .bool a0_2] 23 (0, 0)) (by (repeat (first | (with_reducible first | refine blk_drewN ?_ _ | refine blk_drew ?_ | refine blk_alloc ?_ _) | refine blk_far ?_ NZ0.out _)); exact BK397.out) hb); have n1_ := Aside0.mk (blk_below (g := gb398) (o := .cells #[.int .i64 a1_0, .int .i64 a1_1, .bool a1_2] 23 (0, 0)) (by (repeat (first | (with_reducible first | refine blk_drewN ?_ _ | refine blk_drew ?_ | refine blk_alloc ?_ _) | refine blk_far ?_ NZ1.out _)); exact BK398.out) hb); have n2_ := Aside0.mk (blk_below (g := gb399) (o := .cells #[.int .i64 a2_0, .int .i64 a2_1, .bool a2_2] 23 (0, 0)) (by (repeat (first | (with_reducible first | refine blk_drewN ?_ _ | refine blk_drew ?_ | refine blk_alloc ?_ _) | refine blk_far ?_ NZ2.out _)); exact BK399.out) hb); have n3_ := Aside0.mk (below_step (by repeat (first | (with_reducible first | exact HB.out | apply below_alloc | apply pw_below_drewN | apply below_drew1 | refine below_set ?_ GE397.out | refine below_set ?_ GE398.out | refine below_set ?_ GE399.out | refine below_set ?_ GEz.out) | exact HB.out)) hb); have n4_ := Aside0.mk (blk_below (g := gz) (o := .cells #[.int .i64 a0_0, .int .i64 a0_1, .bool a0_2] 23 (0, 0)) (by (with_reducible repeat (first | refine blk_drewN ?_ _ | refine blk_drew ?_ | refine blk_alloc ?_ _)); refine blk_put (cs := #[.int .i64 a0_0, .int .i64 a0_1, .bool false]) ?_ 2 _ rfl; (with_reducible repeat (first | refine blk_drewN ?_ _ | refine blk_drew ?_ | refine blk_alloc ?_ _)); refine blk_put (cs := #[.int .i64 a0_0, .int .i64 0, .bool false]) ?_ 1 _ rfl; (with_reducible repeat (first | refine blk_drewN ?_ _ | refine blk_drew ?_ | refine blk_alloc ?_ _)); refine blk_put (cs := #[.int .i64 0, .int .i64 0, .bool false]) ?_ 0 _ rfl; (with_reducible repeat (first | refine blk_drewN ?_ _ | refine blk_drew ?_ | refine blk_alloc ?_ _)); exact BKz.out) hb); clear BK397 BK398 BK399 HB BKz hb; have BK397 := n0_; have BK398 := n1_; have BK399 := n2_; have HB := n3_; have BKz := n4_; clear n0_ n1_ n2_ n3_ n4_; have hy0 : wf.cell? ⟨gz, 0, none⟩ = some (.int .i64 a0_0) := (blk_cell BKz.out 0).trans rfl; have hyf0 := blk_frozen BKz.out 0; have hy1 : wf.cell? ⟨gz, 1, none⟩ = some (.int .i64 a0_1) := (blk_cell BKz.out 1).trans rfl; have hyf1 := blk_frozen BKz.out 1; have hy2 : wf.cell? ⟨gz, 2, none⟩ = some (.bool a0_2) := (blk_cell BKz.out 2).trans rfl; have hyf2 := blk_frozen BKz.out 2) | ((with_reducible refine gate_callee (f := 12) rfl ?_); refine goesL_ (some 34) rfl rfl Try.func12 (by kernel_rfl) rfl #[] rfl (by (try simp only [List.map_toArray, List.map_cons, List.map_nil]); first | done | rfl | (simp only [List.length_drop, List.length_take]; rfl)) ?_; (with_reducible refine (coupletlaw04_awake.calls 90 true _ coupletlaw04_awake.some_).mono ?_); rintro e wa ⟨rfl, hb⟩; refine ⟨_, rfl, ?_⟩; have n3_ := Aside0.mk (below_step (by repeat (first | (with_reducible first | exact HB.out | apply below_alloc | apply pw_below_drewN | apply below_drew1 | refine below_set ?_ GE397.out | refine below_set ?_ GE398.out | refine below_set ?_ GE399.out | refine below_set ?_ GEz.out) | exact HB.out)) hb); clear HB hb; have HB := n3_; clear n3_))
    go_ret
    exact ⟨by subst hr; first | rfl | (simp; done), (by repeat (first | (with_reducible first | exact HB.out | apply below_alloc | apply pw_below_drewN | apply below_drew1 | refine below_set ?_ GE397.out | refine below_set ?_ GE398.out | refine below_set ?_ GE399.out | refine below_set ?_ GEz.out) | exact HB.out))⟩
  ·
   go_upto_region 4 with (((with_reducible refine gate_dst (N := 8) rfl ?_); refine box_event ?hg (N := 8) ?hd (cs := #[.int .i64 0, .int .i64 0, .bool false]) (t := 23) ?hr ?_; (case hd => rfl); (case hg => rfl); (case hr => first | (go_simp; done) | (go_simp; rfl)); intro gz hg wz hbox hb; have n0_ := Aside0.mk (blk_below (g := gb397) (o := .cells #[.int .i64 a0_0, .int .i64 a0_1, .bool a0_2] 23 (0, 0)) (by (with_reducible repeat (first | refine blk_drewN ?_ _ | refine blk_drew ?_ | refine blk_alloc ?_ _)); exact BK397.out) hb); have n1_ := Aside0.mk (blk_below (g := gb398) (o := .cells #[.int .i64 a1_0, .int .i64 a1_1, .bool a1_2] 23 (0, 0)) (by (with_reducible repeat (first | refine blk_drewN ?_ _ | refine blk_drew ?_ | refine blk_alloc ?_ _)); exact BK398.out) hb); have n2_ := Aside0.mk (blk_below (g := gb399) (o := .cells #[.int .i64 a2_0, .int .i64 a2_1, .bool a2_2] 23 (0, 0)) (by (with_reducible repeat (first | refine blk_drewN ?_ _ | refine blk_drew ?_ | refine blk_alloc ?_ _)); exact BK399.out) hb); have n3_ := Aside0.mk (below_step (by repeat (first | (with_reducible first | exact HB.out | apply below_alloc | apply pw_below_drewN | apply below_drew1 | refine below_set ?_ GE397.out | refine below_set ?_ GE398.out | refine below_set ?_ GE399.out) | exact HB.out)) hb); have n4_ := Aside0.mk hbox; have n5_ := Aside0.mk (by rw [hg]; exact below_size (by repeat (first | (with_reducible first | exact HB.out | apply below_alloc | apply pw_below_drewN | apply below_drew1 | refine below_set ?_ GE397.out | refine below_set ?_ GE398.out | refine below_set ?_ GE399.out) | exact HB.out)) : w.heap.size ≤ gz); have n6_ := Aside0.mk (by rw [hg]; exact Nat.ne_of_lt (blk_lt (g := gb397) (o := .cells #[.int .i64 a0_0, .int .i64 a0_1, .bool a0_2] 23 (0, 0)) (by (with_reducible repeat (first | refine blk_drewN ?_ _ | refine blk_drew ?_ | refine blk_alloc ?_ _)); exact BK397.out)) : gb397 ≠ gz); have n7_ := Aside0.mk (by rw [hg]; exact Nat.ne_of_lt (blk_lt (g := gb398) (o := .cells #[.int .i64 a1_0, .int .i64 a1_1, .bool a1_2] 23 (0, 0)) (by (with_reducible repeat (first | refine blk_drewN ?_ _ | refine blk_drew ?_ | refine blk_alloc ?_ _)); exact BK398.out)) : gb398 ≠ gz); have n8_ := Aside0.mk (by rw [hg]; exact Nat.ne_of_lt (blk_lt (g := gb399) (o := .cells #[.int .i64 a2_0, .int .i64 a2_1, .bool a2_2] 23 (0, 0)) (by (with_reducible repeat (first | refine blk_drewN ?_ _ | refine blk_drew ?_ | refine blk_alloc ?_ _)); exact BK399.out)) : gb399 ≠ gz); clear BK397 BK398 BK399 HB hb hbox hg; have BK397 := n0_; have BK398 := n1_; have BK399 := n2_; have HB := n3_; have BKz := n4_; have GEz := n5_; have NZ0 := n6_; have NZ1 := n7_; have NZ2 := n8_; clear n0_ n1_ n2_ n3_ n4_ n5_ n6_ n7_ n8_; have hz0 : wz.cell? ⟨gz, 0, none⟩ = some (.int .i64 0) := (blk_cell BKz.out 0).trans rfl; have hzf0 := blk_frozen BKz.out 0; have hz1 : wz.cell? ⟨gz, 1, none⟩ = some (.int .i64 0) := (blk_cell BKz.out 1).trans rfl; have hzf1 := blk_frozen BKz.out 1; have hz2 : wz.cell? ⟨gz, 2, none⟩ = some (.bool false) := (blk_cell BKz.out 2).trans rfl; have hzf2 := blk_frozen BKz.out 2))
   (try simp only [Act.put, List.setIfInBounds_toArray, List.set_cons_zero, List.set_cons_succ])
   have AF := Aside0.mk (Fr.lawfine_eq (k := k) (n := a1_0) (d := a1_1) (bad := a1_2) HK.out)
   by_cases f1 : Fr.fineP a1_0 a1_1 a1_2 = true
   ·
    rw [f1] at AF
    by_cases f2 : a1_0 < -128
    ·
     have d2 : decide (a1_0 < -128) = true := decide_eq_true f2
     go_wp2_with (first | ((with_reducible refine gate_callee (f := 13) rfl ?_); refine goesL_ (some 17) rfl rfl Try.func13 (by kernel_rfl) rfl #[.agg #[.int .i64 a1_0, .int .i64 a1_1, .bool a1_2]] rfl (by (try simp only [List.map_toArray, List.map_cons, List.map_nil]); first | done | rfl | (simp only [List.length_drop, List.length_take]; rfl)) ?_; (with_reducible refine (coupletlaw04_fine.calls k a1_0 a1_1 a1_2 true _ AF.out).mono ?_); rintro e wf ⟨rfl, hb⟩; refine ⟨_, rfl, ?_⟩; have n0_ := Aside0.mk (blk_below (g := gb397) (o := .cells #[.int .i64 a0_0, .int .i64 a0_1, .bool a0_2] 23 (0, 0)) (by (repeat (first | (with_reducible first | refine blk_drewN ?_ _ | refine blk_drew ?_ | refine blk_alloc ?_ _) | refine blk_far ?_ NZ0.out _)); exact BK397.out) hb); have n1_ := Aside0.mk (blk_below (g := gb398) (o := .cells #[.int .i64 a1_0, .int .i64 a1_1, .bool a1_2] 23 (0, 0)) (by (repeat (first | (with_reducible first | refine blk_drewN ?_ _ | refine blk_drew ?_ | refine blk_alloc ?_ _) | refine blk_far ?_ NZ1.out _)); exact BK398.out) hb); have n2_ := Aside0.mk (blk_below (g := gb399) (o := .cells #[.int .i64 a2_0, .int .i64 a2_1, .bool a2_2] 23 (0, 0)) (by (repeat (first | (with_reducible first | refine blk_drewN ?_ _ | refine blk_drew ?_ | refine blk_alloc ?_ _) | refine blk_far ?_ NZ2.out _)); exact BK399.out) hb); have n3_ := Aside0.mk (below_step (by repeat (first | (with_reducible first | exact HB.out | apply below_alloc | apply pw_below_drewN | apply below_drew1 | refine below_set ?_ GE397.out | refine below_set ?_ GE398.out | refine below_set ?_ GE399.out | refine below_set ?_ GEz.out) | exact HB.out)) hb); have n4_ := Aside0.mk (blk_below (g := gz) (o := .cells #[.int .i64 a1_0, .int .i64 a1_1, .bool a1_2] 23 (0, 0)) (by (with_reducible repeat (first | refine blk_drewN ?_ _ | refine blk_drew ?_ | refine blk_alloc ?_ _)); refine blk_put (cs := #[.int .i64 a1_0, .int .i64 a1_1, .bool false]) ?_ 2 _ rfl; (with_reducible repeat (first | refine blk_drewN ?_ _ | refine blk_drew ?_ | refine blk_alloc ?_ _)); refine blk_put (cs := #[.int .i64 a1_0, .int .i64 0, .bool false]) ?_ 1 _ rfl; (with_reducible repeat (first | refine blk_drewN ?_ _ | refine blk_drew ?_ | refine blk_alloc ?_ _)); refine blk_put (cs := #[.int .i64 0, .int .i64 0, .bool false]) ?_ 0 _ rfl; (with_reducible repeat (first | refine blk_drewN ?_ _ | refine blk_drew ?_ | refine blk_alloc ?_ _)); exact BKz.out) hb); clear BK397 BK398 BK399 HB BKz hb; have BK397 := n0_; have BK398 := n1_; have BK399 := n2_; have HB := n3_; have BKz := n4_; clear n0_ n1_ n2_ n3_ n4_; have hy0 : wf.cell? ⟨gz, 0, none⟩ = some (.int .i64 a1_0) := (blk_cell BKz.out 0).trans rfl; have hyf0 := blk_frozen BKz.out 0; have hy1 : wf.cell? ⟨gz, 1, none⟩ = some (.int .i64 a1_1) := (blk_cell BKz.out 1).trans rfl; have hyf1 := blk_frozen BKz.out 1; have hy2 : wf.cell? ⟨gz, 2, none⟩ = some (.bool a1_2) := (blk_cell BKz.out 2).trans rfl; have hyf2 := blk_frozen BKz.out 2) | ((with_reducible refine gate_callee (f := 12) rfl ?_); refine goesL_ (some 34) rfl rfl Try.func12 (by kernel_rfl) rfl #[] rfl (by (try simp only [List.map_toArray, List.map_cons, List.map_nil]); first | done | rfl | (simp only [List.length_drop, List.length_take]; rfl)) ?_; (with_reducible refine (coupletlaw04_awake.calls 90 true _ coupletlaw04_awake.some_).mono ?_); rintro e wa ⟨rfl, hb⟩; refine ⟨_, rfl, ?_⟩; have n3_ := Aside0.mk (below_step (by repeat (first | (with_reducible first | exact HB.out | apply below_alloc | apply pw_below_drewN | apply below_drew1 | refine below_set ?_ GE397.out | refine below_set ?_ GE398.out | refine below_set ?_ GE399.out | refine below_set ?_ GEz.out) | exact HB.out)) hb); clear HB hb; have HB := n3_; clear n3_))
     go_ret
     exact ⟨by subst hr; first | rfl | (simp; done), (by repeat (first | (with_reducible first | exact HB.out | apply below_alloc | apply pw_below_drewN | apply below_drew1 | refine below_set ?_ GE397.out | refine below_set ?_ GE398.out | refine below_set ?_ GE399.out | refine below_set ?_ GEz.out) | exact HB.out))⟩
    ·
     have d2 : decide (a1_0 < -128) = false := decide_eq_false f2
     by_cases f3 : a1_0 > 128
     ·
      have d3 : decide (128 < a1_0) = true := decide_eq_true f3
      go_wp2_with (first | ((with_reducible refine gate_callee (f := 13) rfl ?_); refine goesL_ (some 17) rfl rfl Try.func13 (by kernel_rfl) rfl #[.agg #[.int .i64 a1_0, .int .i64 a1_1, .bool a1_2]] rfl (by (try simp only [List.map_toArray, List.map_cons, List.map_nil]); first | done | rfl | (simp only [List.length_drop, List.length_take]; rfl)) ?_; (with_reducible refine (coupletlaw04_fine.calls k a1_0 a1_1 a1_2 true _ AF.out).mono ?_); rintro e wf ⟨rfl, hb⟩; refine ⟨_, rfl, ?_⟩; have n0_ := Aside0.mk (blk_below (g := gb397) (o := .cells #[.int .i64 a0_0, .int .i64 a0_1, .bool a0_2] 23 (0, 0)) (by (repeat (first | (with_reducible first | refine blk_drewN ?_ _ | refine blk_drew ?_ | refine blk_alloc ?_ _) | refine blk_far ?_ NZ0.out _)); exact BK397.out) hb); have n1_ := Aside0.mk (blk_below (g := gb398) (o := .cells #[.int .i64 a1_0, .int .i64 a1_1, .bool a1_2] 23 (0, 0)) (by (repeat (first | (with_reducible first | refine blk_drewN ?_ _ | refine blk_drew ?_ | refine blk_alloc ?_ _) | refine blk_far ?_ NZ1.out _)); exact BK398.out) hb); have n2_ := Aside0.mk (blk_below (g := gb399) (o := .cells #[.int .i64 a2_0, .int .i64 a2_1, .bool a2_2] 23 (0, 0)) (by (repeat (first | (with_reducible first | refine blk_drewN ?_ _ | refine blk_drew ?_ | refine blk_alloc ?_ _) | refine blk_far ?_ NZ2.out _)); exact BK399.out) hb); have n3_ := Aside0.mk (below_step (by repeat (first | (with_reducible first | exact HB.out | apply below_alloc | apply pw_below_drewN | apply below_drew1 | refine below_set ?_ GE397.out | refine below_set ?_ GE398.out | refine below_set ?_ GE399.out | refine below_set ?_ GEz.out) | exact HB.out)) hb); have n4_ := Aside0.mk (blk_below (g := gz) (o := .cells #[.int .i64 a1_0, .int .i64 a1_1, .bool a1_2] 23 (0, 0)) (by (with_reducible repeat (first | refine blk_drewN ?_ _ | refine blk_drew ?_ | refine blk_alloc ?_ _)); refine blk_put (cs := #[.int .i64 a1_0, .int .i64 a1_1, .bool false]) ?_ 2 _ rfl; (with_reducible repeat (first | refine blk_drewN ?_ _ | refine blk_drew ?_ | refine blk_alloc ?_ _)); refine blk_put (cs := #[.int .i64 a1_0, .int .i64 0, .bool false]) ?_ 1 _ rfl; (with_reducible repeat (first | refine blk_drewN ?_ _ | refine blk_drew ?_ | refine blk_alloc ?_ _)); refine blk_put (cs := #[.int .i64 0, .int .i64 0, .bool false]) ?_ 0 _ rfl; (with_reducible repeat (first | refine blk_drewN ?_ _ | refine blk_drew ?_ | refine blk_alloc ?_ _)); exact BKz.out) hb); clear BK397 BK398 BK399 HB BKz hb; have BK397 := n0_; have BK398 := n1_; have BK399 := n2_; have HB := n3_; have BKz := n4_; clear n0_ n1_ n2_ n3_ n4_; have hy0 : wf.cell? ⟨gz, 0, none⟩ = some (.int .i64 a1_0) := (blk_cell BKz.out 0).trans rfl; have hyf0 := blk_frozen BKz.out 0; have hy1 : wf.cell? ⟨gz, 1, none⟩ = some (.int .i64 a1_1) := (blk_cell BKz.out 1).trans rfl; have hyf1 := blk_frozen BKz.out 1; have hy2 : wf.cell? ⟨gz, 2, none⟩ = some (.bool a1_2) := (blk_cell BKz.out 2).trans rfl; have hyf2 := blk_frozen BKz.out 2) | ((with_reducible refine gate_callee (f := 12) rfl ?_); refine goesL_ (some 34) rfl rfl Try.func12 (by kernel_rfl) rfl #[] rfl (by (try simp only [List.map_toArray, List.map_cons, List.map_nil]); first | done | rfl | (simp only [List.length_drop, List.length_take]; rfl)) ?_; (with_reducible refine (coupletlaw04_awake.calls 90 true _ coupletlaw04_awake.some_).mono ?_); rintro e wa ⟨rfl, hb⟩; refine ⟨_, rfl, ?_⟩; have n3_ := Aside0.mk (below_step (by repeat (first | (with_reducible first | exact HB.out | apply below_alloc | apply pw_below_drewN | apply below_drew1 | refine below_set ?_ GE397.out | refine below_set ?_ GE398.out | refine below_set ?_ GE399.out | refine below_set ?_ GEz.out) | exact HB.out)) hb); clear HB hb; have HB := n3_; clear n3_))
      go_ret
      exact ⟨by subst hr; first | rfl | (simp; done), (by repeat (first | (with_reducible first | exact HB.out | apply below_alloc | apply pw_below_drewN | apply below_drew1 | refine below_set ?_ GE397.out | refine below_set ?_ GE398.out | refine below_set ?_ GE399.out | refine below_set ?_ GEz.out) | exact HB.out))⟩
     ·
      have d3 : decide (128 < a1_0) = false := decide_eq_false f3
      by_cases f4 : a1_1 > 128
      ·
       have d4 : decide (128 < a1_1) = true := decide_eq_true f4
       go_wp2_with (first | ((with_reducible refine gate_callee (f := 13) rfl ?_); refine goesL_ (some 17) rfl rfl Try.func13 (by kernel_rfl) rfl #[.agg #[.int .i64 a1_0, .int .i64 a1_1, .bool a1_2]] rfl (by (try simp only [List.map_toArray, List.map_cons, List.map_nil]); first | done | rfl | (simp only [List.length_drop, List.length_take]; rfl)) ?_; (with_reducible refine (coupletlaw04_fine.calls k a1_0 a1_1 a1_2 true _ AF.out).mono ?_); rintro e wf ⟨rfl, hb⟩; refine ⟨_, rfl, ?_⟩; have n0_ := Aside0.mk (blk_below (g := gb397) (o := .cells #[.int .i64 a0_0, .int .i64 a0_1, .bool a0_2] 23 (0, 0)) (by (repeat (first | (with_reducible first | refine blk_drewN ?_ _ | refine blk_drew ?_ | refine blk_alloc ?_ _) | refine blk_far ?_ NZ0.out _)); exact BK397.out) hb); have n1_ := Aside0.mk (blk_below (g := gb398) (o := .cells #[.int .i64 a1_0, .int .i64 a1_1, .bool a1_2] 23 (0, 0)) (by (repeat (first | (with_reducible first | refine blk_drewN ?_ _ | refine blk_drew ?_ | refine blk_alloc ?_ _) | refine blk_far ?_ NZ1.out _)); exact BK398.out) hb); have n2_ := Aside0.mk (blk_below (g := gb399) (o := .cells #[.int .i64 a2_0, .int .i64 a2_1, .bool a2_2] 23 (0, 0)) (by (repeat (first | (with_reducible first | refine blk_drewN ?_ _ | refine blk_drew ?_ | refine blk_alloc ?_ _) | refine blk_far ?_ NZ2.out _)); exact BK399.out) hb); have n3_ := Aside0.mk (below_step (by repeat (first | (with_reducible first | exact HB.out | apply below_alloc | apply pw_below_drewN | apply below_drew1 | refine below_set ?_ GE397.out | refine below_set ?_ GE398.out | refine below_set ?_ GE399.out | refine below_set ?_ GEz.out) | exact HB.out)) hb); have n4_ := Aside0.mk (blk_below (g := gz) (o := .cells #[.int .i64 a1_0, .int .i64 a1_1, .bool a1_2] 23 (0, 0)) (by (with_reducible repeat (first | refine blk_drewN ?_ _ | refine blk_drew ?_ | refine blk_alloc ?_ _)); refine blk_put (cs := #[.int .i64 a1_0, .int .i64 a1_1, .bool false]) ?_ 2 _ rfl; (with_reducible repeat (first | refine blk_drewN ?_ _ | refine blk_drew ?_ | refine blk_alloc ?_ _)); refine blk_put (cs := #[.int .i64 a1_0, .int .i64 0, .bool false]) ?_ 1 _ rfl; (with_reducible repeat (first | refine blk_drewN ?_ _ | refine blk_drew ?_ | refine blk_alloc ?_ _)); refine blk_put (cs := #[.int .i64 0, .int .i64 0, .bool false]) ?_ 0 _ rfl; (with_reducible repeat (first | refine blk_drewN ?_ _ | refine blk_drew ?_ | refine blk_alloc ?_ _)); exact BKz.out) hb); clear BK397 BK398 BK399 HB BKz hb; have BK397 := n0_; have BK398 := n1_; have BK399 := n2_; have HB := n3_; have BKz := n4_; clear n0_ n1_ n2_ n3_ n4_; have hy0 : wf.cell? ⟨gz, 0, none⟩ = some (.int .i64 a1_0) := (blk_cell BKz.out 0).trans rfl; have hyf0 := blk_frozen BKz.out 0; have hy1 : wf.cell? ⟨gz, 1, none⟩ = some (.int .i64 a1_1) := (blk_cell BKz.out 1).trans rfl; have hyf1 := blk_frozen BKz.out 1; have hy2 : wf.cell? ⟨gz, 2, none⟩ = some (.bool a1_2) := (blk_cell BKz.out 2).trans rfl; have hyf2 := blk_frozen BKz.out 2) | ((with_reducible refine gate_callee (f := 12) rfl ?_); refine goesL_ (some 34) rfl rfl Try.func12 (by kernel_rfl) rfl #[] rfl (by (try simp only [List.map_toArray, List.map_cons, List.map_nil]); first | done | rfl | (simp only [List.length_drop, List.length_take]; rfl)) ?_; (with_reducible refine (coupletlaw04_awake.calls 90 true _ coupletlaw04_awake.some_).mono ?_); rintro e wa ⟨rfl, hb⟩; refine ⟨_, rfl, ?_⟩; have n3_ := Aside0.mk (below_step (by repeat (first | (with_reducible first | exact HB.out | apply below_alloc | apply pw_below_drewN | apply below_drew1 | refine below_set ?_ GE397.out | refine below_set ?_ GE398.out | refine below_set ?_ GE399.out | refine below_set ?_ GEz.out) | exact HB.out)) hb); clear HB hb; have HB := n3_; clear n3_))
       go_ret
       exact ⟨by subst hr; first | rfl | (simp; done), (by repeat (first | (with_reducible first | exact HB.out | apply below_alloc | apply pw_below_drewN | apply below_drew1 | refine below_set ?_ GE397.out | refine below_set ?_ GE398.out | refine below_set ?_ GE399.out | refine below_set ?_ GEz.out) | exact HB.out))⟩
      ·
       have d4 : decide (128 < a1_1) = false := decide_eq_false f4
       have HG := Aside0.mk (show (Fr.fineP a1_0 a1_1 a1_2 = true ∧ -128 ≤ a1_0 ∧ a1_0 ≤ 128 ∧ a1_1 ≤ 128) from ⟨f1, by omega, by omega, by omega⟩)
       go_wp2_with ((with_reducible refine gate_callee (f := 13) rfl ?_); refine goesL_ (some 17) rfl rfl Try.func13 (by kernel_rfl) rfl #[.agg #[.int .i64 a1_0, .int .i64 a1_1, .bool a1_2]] rfl (by (try simp only [List.map_toArray, List.map_cons, List.map_nil]); first | done | rfl | (simp only [List.length_drop, List.length_take]; rfl)) ?_; (with_reducible refine (coupletlaw04_fine.calls k a1_0 a1_1 a1_2 true _ AF.out).mono ?_); rintro e wf ⟨rfl, hb⟩; refine ⟨_, rfl, ?_⟩; have n0_ := Aside0.mk (blk_below (g := gb397) (o := .cells #[.int .i64 a0_0, .int .i64 a0_1, .bool a0_2] 23 (0, 0)) (by (repeat (first | (with_reducible first | refine blk_drewN ?_ _ | refine blk_drew ?_ | refine blk_alloc ?_ _) | refine blk_far ?_ NZ0.out _)); exact BK397.out) hb); have n1_ := Aside0.mk (blk_below (g := gb398) (o := .cells #[.int .i64 a1_0, .int .i64 a1_1, .bool a1_2] 23 (0, 0)) (by (repeat (first | (with_reducible first | refine blk_drewN ?_ _ | refine blk_drew ?_ | refine blk_alloc ?_ _) | refine blk_far ?_ NZ1.out _)); exact BK398.out) hb); have n2_ := Aside0.mk (blk_below (g := gb399) (o := .cells #[.int .i64 a2_0, .int .i64 a2_1, .bool a2_2] 23 (0, 0)) (by (repeat (first | (with_reducible first | refine blk_drewN ?_ _ | refine blk_drew ?_ | refine blk_alloc ?_ _) | refine blk_far ?_ NZ2.out _)); exact BK399.out) hb); have n3_ := Aside0.mk (below_step (by repeat (first | (with_reducible first | exact HB.out | apply below_alloc | apply pw_below_drewN | apply below_drew1 | refine below_set ?_ GE397.out | refine below_set ?_ GE398.out | refine below_set ?_ GE399.out | refine below_set ?_ GEz.out) | exact HB.out)) hb); have n4_ := Aside0.mk (blk_below (g := gz) (o := .cells #[.int .i64 a1_0, .int .i64 a1_1, .bool a1_2] 23 (0, 0)) (by (with_reducible repeat (first | refine blk_drewN ?_ _ | refine blk_drew ?_ | refine blk_alloc ?_ _)); refine blk_put (cs := #[.int .i64 a1_0, .int .i64 a1_1, .bool false]) ?_ 2 _ rfl; (with_reducible repeat (first | refine blk_drewN ?_ _ | refine blk_drew ?_ | refine blk_alloc ?_ _)); refine blk_put (cs := #[.int .i64 a1_0, .int .i64 0, .bool false]) ?_ 1 _ rfl; (with_reducible repeat (first | refine blk_drewN ?_ _ | refine blk_drew ?_ | refine blk_alloc ?_ _)); refine blk_put (cs := #[.int .i64 0, .int .i64 0, .bool false]) ?_ 0 _ rfl; (with_reducible repeat (first | refine blk_drewN ?_ _ | refine blk_drew ?_ | refine blk_alloc ?_ _)); exact BKz.out) hb); clear BK397 BK398 BK399 HB BKz hb; have BK397 := n0_; have BK398 := n1_; have BK399 := n2_; have HB := n3_; have BKz := n4_; clear n0_ n1_ n2_ n3_ n4_; have hy0 : wf.cell? ⟨gz, 0, none⟩ = some (.int .i64 a1_0) := (blk_cell BKz.out 0).trans rfl; have hyf0 := blk_frozen BKz.out 0; have hy1 : wf.cell? ⟨gz, 1, none⟩ = some (.int .i64 a1_1) := (blk_cell BKz.out 1).trans rfl; have hyf1 := blk_frozen BKz.out 1; have hy2 : wf.cell? ⟨gz, 2, none⟩ = some (.bool a1_2) := (blk_cell BKz.out 2).trans rfl; have hyf2 := blk_frozen BKz.out 2)
       go_roundg (gk - 1)
       case measure => have := HI.out; omega
       case rel => exact ⟨2, (by first | rfl | (simp; done)), ⟨by omega, by have := HI.out; omega⟩, ⟨fun _ => HP.out.1 (by omega), fun _ => HG.out, fun h => absurd h (by omega)⟩, ⟨(by (repeat (first | (with_reducible first | refine blk_drewN ?_ _ | refine blk_drew ?_ | refine blk_alloc ?_ _) | refine blk_far ?_ NZ0.out _)); exact BK397.out)⟩, ⟨(by (repeat (first | (with_reducible first | refine blk_drewN ?_ _ | refine blk_drew ?_ | refine blk_alloc ?_ _) | refine blk_far ?_ NZ1.out _)); exact BK398.out)⟩, ⟨(by (repeat (first | (with_reducible first | refine blk_drewN ?_ _ | refine blk_drew ?_ | refine blk_alloc ?_ _) | refine blk_far ?_ NZ2.out _)); exact BK399.out)⟩, ⟨by repeat (first | (with_reducible first | exact HB.out | apply below_alloc | apply pw_below_drewN | apply below_drew1 | refine below_set ?_ GE397.out | refine below_set ?_ GE398.out | refine below_set ?_ GE399.out | refine below_set ?_ GEz.out) | exact HB.out)⟩⟩
   ·
    have f1' : Fr.fineP a1_0 a1_1 a1_2 = false := by simpa using f1
    rw [f1'] at AF
    go_wp2_with (first | ((with_reducible refine gate_callee (f := 13) rfl ?_); refine goesL_ (some 17) rfl rfl Try.func13 (by kernel_rfl) rfl #[.agg #[.int .i64 a1_0, .int .i64 a1_1, .bool a1_2]] rfl (by (try simp only [List.map_toArray, List.map_cons, List.map_nil]); first | done | rfl | (simp only [List.length_drop, List.length_take]; rfl)) ?_; (with_reducible refine (coupletlaw04_fine.calls k a1_0 a1_1 a1_2 false _ AF.out).mono ?_); rintro e wf ⟨rfl, hb⟩; refine ⟨_, rfl, ?_⟩; have n0_ := Aside0.mk (blk_below (g := gb397) (o := .cells #[.int .i64 a0_0, .int .i64 a0_1, .bool a0_2] 23 (0, 0)) (by (repeat (first | (with_reducible first | refine blk_drewN ?_ _ | refine blk_drew ?_ | refine blk_alloc ?_ _) | refine blk_far ?_ NZ0.out _)); exact BK397.out) hb); have n1_ := Aside0.mk (blk_below (g := gb398) (o := .cells #[.int .i64 a1_0, .int .i64 a1_1, .bool a1_2] 23 (0, 0)) (by (repeat (first | (with_reducible first | refine blk_drewN ?_ _ | refine blk_drew ?_ | refine blk_alloc ?_ _) | refine blk_far ?_ NZ1.out _)); exact BK398.out) hb); have n2_ := Aside0.mk (blk_below (g := gb399) (o := .cells #[.int .i64 a2_0, .int .i64 a2_1, .bool a2_2] 23 (0, 0)) (by (repeat (first | (with_reducible first | refine blk_drewN ?_ _ | refine blk_drew ?_ | refine blk_alloc ?_ _) | refine blk_far ?_ NZ2.out _)); exact BK399.out) hb); have n3_ := Aside0.mk (below_step (by repeat (first | (with_reducible first | exact HB.out | apply below_alloc | apply pw_below_drewN | apply below_drew1 | refine below_set ?_ GE397.out | refine below_set ?_ GE398.out | refine below_set ?_ GE399.out | refine below_set ?_ GEz.out) | exact HB.out)) hb); have n4_ := Aside0.mk (blk_below (g := gz) (o := .cells #[.int .i64 a1_0, .int .i64 a1_1, .bool a1_2] 23 (0, 0)) (by (with_reducible repeat (first | refine blk_drewN ?_ _ | refine blk_drew ?_ | refine blk_alloc ?_ _)); refine blk_put (cs := #[.int .i64 a1_0, .int .i64 a1_1, .bool false]) ?_ 2 _ rfl; (with_reducible repeat (first | refine blk_drewN ?_ _ | refine blk_drew ?_ | refine blk_alloc ?_ _)); refine blk_put (cs := #[.int .i64 a1_0, .int .i64 0, .bool false]) ?_ 1 _ rfl; (with_reducible repeat (first | refine blk_drewN ?_ _ | refine blk_drew ?_ | refine blk_alloc ?_ _)); refine blk_put (cs := #[.int .i64 0, .int .i64 0, .bool false]) ?_ 0 _ rfl; (with_reducible repeat (first | refine blk_drewN ?_ _ | refine blk_drew ?_ | refine blk_alloc ?_ _)); exact BKz.out) hb); clear BK397 BK398 BK399 HB BKz hb; have BK397 := n0_; have BK398 := n1_; have BK399 := n2_; have HB := n3_; have BKz := n4_; clear n0_ n1_ n2_ n3_ n4_; have hy0 : wf.cell? ⟨gz, 0, none⟩ = some (.int .i64 a1_0) := (blk_cell BKz.out 0).trans rfl; have hyf0 := blk_frozen BKz.out 0; have hy1 : wf.cell? ⟨gz, 1, none⟩ = some (.int .i64 a1_1) := (blk_cell BKz.out 1).trans rfl; have hyf1 := blk_frozen BKz.out 1; have hy2 : wf.cell? ⟨gz, 2, none⟩ = some (.bool a1_2) := (blk_cell BKz.out 2).trans rfl; have hyf2 := blk_frozen BKz.out 2) | ((with_reducible refine gate_callee (f := 12) rfl ?_); refine goesL_ (some 34) rfl rfl Try.func12 (by kernel_rfl) rfl #[] rfl (by (try simp only [List.map_toArray, List.map_cons, List.map_nil]); first | done | rfl | (simp only [List.length_drop, List.length_take]; rfl)) ?_; (with_reducible refine (coupletlaw04_awake.calls 90 true _ coupletlaw04_awake.some_).mono ?_); rintro e wa ⟨rfl, hb⟩; refine ⟨_, rfl, ?_⟩; have n3_ := Aside0.mk (below_step (by repeat (first | (with_reducible first | exact HB.out | apply below_alloc | apply pw_below_drewN | apply below_drew1 | refine below_set ?_ GE397.out | refine below_set ?_ GE398.out | refine below_set ?_ GE399.out | refine below_set ?_ GEz.out) | exact HB.out)) hb); clear HB hb; have HB := n3_; clear n3_))
    go_ret
    exact ⟨by subst hr; first | rfl | (simp; done), (by repeat (first | (with_reducible first | exact HB.out | apply below_alloc | apply pw_below_drewN | apply below_drew1 | refine below_set ?_ GE397.out | refine below_set ?_ GE398.out | refine below_set ?_ GE399.out | refine below_set ?_ GEz.out) | exact HB.out))⟩
  ·
   go_upto_region 4 with (((with_reducible refine gate_dst (N := 8) rfl ?_); refine box_event ?hg (N := 8) ?hd (cs := #[.int .i64 0, .int .i64 0, .bool false]) (t := 23) ?hr ?_; (case hd => rfl); (case hg => rfl); (case hr => first | (go_simp; done) | (go_simp; rfl)); intro gz hg wz hbox hb; have n0_ := Aside0.mk (blk_below (g := gb397) (o := .cells #[.int .i64 a0_0, .int .i64 a0_1, .bool a0_2] 23 (0, 0)) (by (with_reducible repeat (first | refine blk_drewN ?_ _ | refine blk_drew ?_ | refine blk_alloc ?_ _)); exact BK397.out) hb); have n1_ := Aside0.mk (blk_below (g := gb398) (o := .cells #[.int .i64 a1_0, .int .i64 a1_1, .bool a1_2] 23 (0, 0)) (by (with_reducible repeat (first | refine blk_drewN ?_ _ | refine blk_drew ?_ | refine blk_alloc ?_ _)); exact BK398.out) hb); have n2_ := Aside0.mk (blk_below (g := gb399) (o := .cells #[.int .i64 a2_0, .int .i64 a2_1, .bool a2_2] 23 (0, 0)) (by (with_reducible repeat (first | refine blk_drewN ?_ _ | refine blk_drew ?_ | refine blk_alloc ?_ _)); exact BK399.out) hb); have n3_ := Aside0.mk (below_step (by repeat (first | (with_reducible first | exact HB.out | apply below_alloc | apply pw_below_drewN | apply below_drew1 | refine below_set ?_ GE397.out | refine below_set ?_ GE398.out | refine below_set ?_ GE399.out) | exact HB.out)) hb); have n4_ := Aside0.mk hbox; have n5_ := Aside0.mk (by rw [hg]; exact below_size (by repeat (first | (with_reducible first | exact HB.out | apply below_alloc | apply pw_below_drewN | apply below_drew1 | refine below_set ?_ GE397.out | refine below_set ?_ GE398.out | refine below_set ?_ GE399.out) | exact HB.out)) : w.heap.size ≤ gz); have n6_ := Aside0.mk (by rw [hg]; exact Nat.ne_of_lt (blk_lt (g := gb397) (o := .cells #[.int .i64 a0_0, .int .i64 a0_1, .bool a0_2] 23 (0, 0)) (by (with_reducible repeat (first | refine blk_drewN ?_ _ | refine blk_drew ?_ | refine blk_alloc ?_ _)); exact BK397.out)) : gb397 ≠ gz); have n7_ := Aside0.mk (by rw [hg]; exact Nat.ne_of_lt (blk_lt (g := gb398) (o := .cells #[.int .i64 a1_0, .int .i64 a1_1, .bool a1_2] 23 (0, 0)) (by (with_reducible repeat (first | refine blk_drewN ?_ _ | refine blk_drew ?_ | refine blk_alloc ?_ _)); exact BK398.out)) : gb398 ≠ gz); have n8_ := Aside0.mk (by rw [hg]; exact Nat.ne_of_lt (blk_lt (g := gb399) (o := .cells #[.int .i64 a2_0, .int .i64 a2_1, .bool a2_2] 23 (0, 0)) (by (with_reducible repeat (first | refine blk_drewN ?_ _ | refine blk_drew ?_ | refine blk_alloc ?_ _)); exact BK399.out)) : gb399 ≠ gz); clear BK397 BK398 BK399 HB hb hbox hg; have BK397 := n0_; have BK398 := n1_; have BK399 := n2_; have HB := n3_; have BKz := n4_; have GEz := n5_; have NZ0 := n6_; have NZ1 := n7_; have NZ2 := n8_; clear n0_ n1_ n2_ n3_ n4_ n5_ n6_ n7_ n8_; have hz0 : wz.cell? ⟨gz, 0, none⟩ = some (.int .i64 0) := (blk_cell BKz.out 0).trans rfl; have hzf0 := blk_frozen BKz.out 0; have hz1 : wz.cell? ⟨gz, 1, none⟩ = some (.int .i64 0) := (blk_cell BKz.out 1).trans rfl; have hzf1 := blk_frozen BKz.out 1; have hz2 : wz.cell? ⟨gz, 2, none⟩ = some (.bool false) := (blk_cell BKz.out 2).trans rfl; have hzf2 := blk_frozen BKz.out 2))
   (try simp only [Act.put, List.setIfInBounds_toArray, List.set_cons_zero, List.set_cons_succ])
   have AF := Aside0.mk (Fr.lawfine_eq (k := k) (n := a2_0) (d := a2_1) (bad := a2_2) HK.out)
   by_cases f1 : Fr.fineP a2_0 a2_1 a2_2 = true
   ·
    rw [f1] at AF
    by_cases f2 : a2_0 < -128
    ·
     have d2 : decide (a2_0 < -128) = true := decide_eq_true f2
     go_wp2_with (first | ((with_reducible refine gate_callee (f := 13) rfl ?_); refine goesL_ (some 17) rfl rfl Try.func13 (by kernel_rfl) rfl #[.agg #[.int .i64 a2_0, .int .i64 a2_1, .bool a2_2]] rfl (by (try simp only [List.map_toArray, List.map_cons, List.map_nil]); first | done | rfl | (simp only [List.length_drop, List.length_take]; rfl)) ?_; (with_reducible refine (coupletlaw04_fine.calls k a2_0 a2_1 a2_2 true _ AF.out).mono ?_); rintro e wf ⟨rfl, hb⟩; refine ⟨_, rfl, ?_⟩; have n0_ := Aside0.mk (blk_below (g := gb397) (o := .cells #[.int .i64 a0_0, .int .i64 a0_1, .bool a0_2] 23 (0, 0)) (by (repeat (first | (with_reducible first | refine blk_drewN ?_ _ | refine blk_drew ?_ | refine blk_alloc ?_ _) | refine blk_far ?_ NZ0.out _)); exact BK397.out) hb); have n1_ := Aside0.mk (blk_below (g := gb398) (o := .cells #[.int .i64 a1_0, .int .i64 a1_1, .bool a1_2] 23 (0, 0)) (by (repeat (first | (with_reducible first | refine blk_drewN ?_ _ | refine blk_drew ?_ | refine blk_alloc ?_ _) | refine blk_far ?_ NZ1.out _)); exact BK398.out) hb); have n2_ := Aside0.mk (blk_below (g := gb399) (o := .cells #[.int .i64 a2_0, .int .i64 a2_1, .bool a2_2] 23 (0, 0)) (by (repeat (first | (with_reducible first | refine blk_drewN ?_ _ | refine blk_drew ?_ | refine blk_alloc ?_ _) | refine blk_far ?_ NZ2.out _)); exact BK399.out) hb); have n3_ := Aside0.mk (below_step (by repeat (first | (with_reducible first | exact HB.out | apply below_alloc | apply pw_below_drewN | apply below_drew1 | refine below_set ?_ GE397.out | refine below_set ?_ GE398.out | refine below_set ?_ GE399.out | refine below_set ?_ GEz.out) | exact HB.out)) hb); have n4_ := Aside0.mk (blk_below (g := gz) (o := .cells #[.int .i64 a2_0, .int .i64 a2_1, .bool a2_2] 23 (0, 0)) (by (with_reducible repeat (first | refine blk_drewN ?_ _ | refine blk_drew ?_ | refine blk_alloc ?_ _)); refine blk_put (cs := #[.int .i64 a2_0, .int .i64 a2_1, .bool false]) ?_ 2 _ rfl; (with_reducible repeat (first | refine blk_drewN ?_ _ | refine blk_drew ?_ | refine blk_alloc ?_ _)); refine blk_put (cs := #[.int .i64 a2_0, .int .i64 0, .bool false]) ?_ 1 _ rfl; (with_reducible repeat (first | refine blk_drewN ?_ _ | refine blk_drew ?_ | refine blk_alloc ?_ _)); refine blk_put (cs := #[.int .i64 0, .int .i64 0, .bool false]) ?_ 0 _ rfl; (with_reducible repeat (first | refine blk_drewN ?_ _ | refine blk_drew ?_ | refine blk_alloc ?_ _)); exact BKz.out) hb); clear BK397 BK398 BK399 HB BKz hb; have BK397 := n0_; have BK398 := n1_; have BK399 := n2_; have HB := n3_; have BKz := n4_; clear n0_ n1_ n2_ n3_ n4_; have hy0 : wf.cell? ⟨gz, 0, none⟩ = some (.int .i64 a2_0) := (blk_cell BKz.out 0).trans rfl; have hyf0 := blk_frozen BKz.out 0; have hy1 : wf.cell? ⟨gz, 1, none⟩ = some (.int .i64 a2_1) := (blk_cell BKz.out 1).trans rfl; have hyf1 := blk_frozen BKz.out 1; have hy2 : wf.cell? ⟨gz, 2, none⟩ = some (.bool a2_2) := (blk_cell BKz.out 2).trans rfl; have hyf2 := blk_frozen BKz.out 2) | ((with_reducible refine gate_callee (f := 12) rfl ?_); refine goesL_ (some 34) rfl rfl Try.func12 (by kernel_rfl) rfl #[] rfl (by (try simp only [List.map_toArray, List.map_cons, List.map_nil]); first | done | rfl | (simp only [List.length_drop, List.length_take]; rfl)) ?_; (with_reducible refine (coupletlaw04_awake.calls 90 true _ coupletlaw04_awake.some_).mono ?_); rintro e wa ⟨rfl, hb⟩; refine ⟨_, rfl, ?_⟩; have n3_ := Aside0.mk (below_step (by repeat (first | (with_reducible first | exact HB.out | apply below_alloc | apply pw_below_drewN | apply below_drew1 | refine below_set ?_ GE397.out | refine below_set ?_ GE398.out | refine below_set ?_ GE399.out | refine below_set ?_ GEz.out) | exact HB.out)) hb); clear HB hb; have HB := n3_; clear n3_))
     go_ret
     exact ⟨by subst hr; first | rfl | (simp; done), (by repeat (first | (with_reducible first | exact HB.out | apply below_alloc | apply pw_below_drewN | apply below_drew1 | refine below_set ?_ GE397.out | refine below_set ?_ GE398.out | refine below_set ?_ GE399.out | refine below_set ?_ GEz.out) | exact HB.out))⟩
    ·
     have d2 : decide (a2_0 < -128) = false := decide_eq_false f2
     by_cases f3 : a2_0 > 128
     ·
      have d3 : decide (128 < a2_0) = true := decide_eq_true f3
      go_wp2_with (first | ((with_reducible refine gate_callee (f := 13) rfl ?_); refine goesL_ (some 17) rfl rfl Try.func13 (by kernel_rfl) rfl #[.agg #[.int .i64 a2_0, .int .i64 a2_1, .bool a2_2]] rfl (by (try simp only [List.map_toArray, List.map_cons, List.map_nil]); first | done | rfl | (simp only [List.length_drop, List.length_take]; rfl)) ?_; (with_reducible refine (coupletlaw04_fine.calls k a2_0 a2_1 a2_2 true _ AF.out).mono ?_); rintro e wf ⟨rfl, hb⟩; refine ⟨_, rfl, ?_⟩; have n0_ := Aside0.mk (blk_below (g := gb397) (o := .cells #[.int .i64 a0_0, .int .i64 a0_1, .bool a0_2] 23 (0, 0)) (by (repeat (first | (with_reducible first | refine blk_drewN ?_ _ | refine blk_drew ?_ | refine blk_alloc ?_ _) | refine blk_far ?_ NZ0.out _)); exact BK397.out) hb); have n1_ := Aside0.mk (blk_below (g := gb398) (o := .cells #[.int .i64 a1_0, .int .i64 a1_1, .bool a1_2] 23 (0, 0)) (by (repeat (first | (with_reducible first | refine blk_drewN ?_ _ | refine blk_drew ?_ | refine blk_alloc ?_ _) | refine blk_far ?_ NZ1.out _)); exact BK398.out) hb); have n2_ := Aside0.mk (blk_below (g := gb399) (o := .cells #[.int .i64 a2_0, .int .i64 a2_1, .bool a2_2] 23 (0, 0)) (by (repeat (first | (with_reducible first | refine blk_drewN ?_ _ | refine blk_drew ?_ | refine blk_alloc ?_ _) | refine blk_far ?_ NZ2.out _)); exact BK399.out) hb); have n3_ := Aside0.mk (below_step (by repeat (first | (with_reducible first | exact HB.out | apply below_alloc | apply pw_below_drewN | apply below_drew1 | refine below_set ?_ GE397.out | refine below_set ?_ GE398.out | refine below_set ?_ GE399.out | refine below_set ?_ GEz.out) | exact HB.out)) hb); have n4_ := Aside0.mk (blk_below (g := gz) (o := .cells #[.int .i64 a2_0, .int .i64 a2_1, .bool a2_2] 23 (0, 0)) (by (with_reducible repeat (first | refine blk_drewN ?_ _ | refine blk_drew ?_ | refine blk_alloc ?_ _)); refine blk_put (cs := #[.int .i64 a2_0, .int .i64 a2_1, .bool false]) ?_ 2 _ rfl; (with_reducible repeat (first | refine blk_drewN ?_ _ | refine blk_drew ?_ | refine blk_alloc ?_ _)); refine blk_put (cs := #[.int .i64 a2_0, .int .i64 0, .bool false]) ?_ 1 _ rfl; (with_reducible repeat (first | refine blk_drewN ?_ _ | refine blk_drew ?_ | refine blk_alloc ?_ _)); refine blk_put (cs := #[.int .i64 0, .int .i64 0, .bool false]) ?_ 0 _ rfl; (with_reducible repeat (first | refine blk_drewN ?_ _ | refine blk_drew ?_ | refine blk_alloc ?_ _)); exact BKz.out) hb); clear BK397 BK398 BK399 HB BKz hb; have BK397 := n0_; have BK398 := n1_; have BK399 := n2_; have HB := n3_; have BKz := n4_; clear n0_ n1_ n2_ n3_ n4_; have hy0 : wf.cell? ⟨gz, 0, none⟩ = some (.int .i64 a2_0) := (blk_cell BKz.out 0).trans rfl; have hyf0 := blk_frozen BKz.out 0; have hy1 : wf.cell? ⟨gz, 1, none⟩ = some (.int .i64 a2_1) := (blk_cell BKz.out 1).trans rfl; have hyf1 := blk_frozen BKz.out 1; have hy2 : wf.cell? ⟨gz, 2, none⟩ = some (.bool a2_2) := (blk_cell BKz.out 2).trans rfl; have hyf2 := blk_frozen BKz.out 2) | ((with_reducible refine gate_callee (f := 12) rfl ?_); refine goesL_ (some 34) rfl rfl Try.func12 (by kernel_rfl) rfl #[] rfl (by (try simp only [List.map_toArray, List.map_cons, List.map_nil]); first | done | rfl | (simp only [List.length_drop, List.length_take]; rfl)) ?_; (with_reducible refine (coupletlaw04_awake.calls 90 true _ coupletlaw04_awake.some_).mono ?_); rintro e wa ⟨rfl, hb⟩; refine ⟨_, rfl, ?_⟩; have n3_ := Aside0.mk (below_step (by repeat (first | (with_reducible first | exact HB.out | apply below_alloc | apply pw_below_drewN | apply below_drew1 | refine below_set ?_ GE397.out | refine below_set ?_ GE398.out | refine below_set ?_ GE399.out | refine below_set ?_ GEz.out) | exact HB.out)) hb); clear HB hb; have HB := n3_; clear n3_))
      go_ret
      exact ⟨by subst hr; first | rfl | (simp; done), (by repeat (first | (with_reducible first | exact HB.out | apply below_alloc | apply pw_below_drewN | apply below_drew1 | refine below_set ?_ GE397.out | refine below_set ?_ GE398.out | refine below_set ?_ GE399.out | refine below_set ?_ GEz.out) | exact HB.out))⟩
     ·
      have d3 : decide (128 < a2_0) = false := decide_eq_false f3
      by_cases f4 : a2_1 > 128
      ·
       have d4 : decide (128 < a2_1) = true := decide_eq_true f4
       go_wp2_with (first | ((with_reducible refine gate_callee (f := 13) rfl ?_); refine goesL_ (some 17) rfl rfl Try.func13 (by kernel_rfl) rfl #[.agg #[.int .i64 a2_0, .int .i64 a2_1, .bool a2_2]] rfl (by (try simp only [List.map_toArray, List.map_cons, List.map_nil]); first | done | rfl | (simp only [List.length_drop, List.length_take]; rfl)) ?_; (with_reducible refine (coupletlaw04_fine.calls k a2_0 a2_1 a2_2 true _ AF.out).mono ?_); rintro e wf ⟨rfl, hb⟩; refine ⟨_, rfl, ?_⟩; have n0_ := Aside0.mk (blk_below (g := gb397) (o := .cells #[.int .i64 a0_0, .int .i64 a0_1, .bool a0_2] 23 (0, 0)) (by (repeat (first | (with_reducible first | refine blk_drewN ?_ _ | refine blk_drew ?_ | refine blk_alloc ?_ _) | refine blk_far ?_ NZ0.out _)); exact BK397.out) hb); have n1_ := Aside0.mk (blk_below (g := gb398) (o := .cells #[.int .i64 a1_0, .int .i64 a1_1, .bool a1_2] 23 (0, 0)) (by (repeat (first | (with_reducible first | refine blk_drewN ?_ _ | refine blk_drew ?_ | refine blk_alloc ?_ _) | refine blk_far ?_ NZ1.out _)); exact BK398.out) hb); have n2_ := Aside0.mk (blk_below (g := gb399) (o := .cells #[.int .i64 a2_0, .int .i64 a2_1, .bool a2_2] 23 (0, 0)) (by (repeat (first | (with_reducible first | refine blk_drewN ?_ _ | refine blk_drew ?_ | refine blk_alloc ?_ _) | refine blk_far ?_ NZ2.out _)); exact BK399.out) hb); have n3_ := Aside0.mk (below_step (by repeat (first | (with_reducible first | exact HB.out | apply below_alloc | apply pw_below_drewN | apply below_drew1 | refine below_set ?_ GE397.out | refine below_set ?_ GE398.out | refine below_set ?_ GE399.out | refine below_set ?_ GEz.out) | exact HB.out)) hb); have n4_ := Aside0.mk (blk_below (g := gz) (o := .cells #[.int .i64 a2_0, .int .i64 a2_1, .bool a2_2] 23 (0, 0)) (by (with_reducible repeat (first | refine blk_drewN ?_ _ | refine blk_drew ?_ | refine blk_alloc ?_ _)); refine blk_put (cs := #[.int .i64 a2_0, .int .i64 a2_1, .bool false]) ?_ 2 _ rfl; (with_reducible repeat (first | refine blk_drewN ?_ _ | refine blk_drew ?_ | refine blk_alloc ?_ _)); refine blk_put (cs := #[.int .i64 a2_0, .int .i64 0, .bool false]) ?_ 1 _ rfl; (with_reducible repeat (first | refine blk_drewN ?_ _ | refine blk_drew ?_ | refine blk_alloc ?_ _)); refine blk_put (cs := #[.int .i64 0, .int .i64 0, .bool false]) ?_ 0 _ rfl; (with_reducible repeat (first | refine blk_drewN ?_ _ | refine blk_drew ?_ | refine blk_alloc ?_ _)); exact BKz.out) hb); clear BK397 BK398 BK399 HB BKz hb; have BK397 := n0_; have BK398 := n1_; have BK399 := n2_; have HB := n3_; have BKz := n4_; clear n0_ n1_ n2_ n3_ n4_; have hy0 : wf.cell? ⟨gz, 0, none⟩ = some (.int .i64 a2_0) := (blk_cell BKz.out 0).trans rfl; have hyf0 := blk_frozen BKz.out 0; have hy1 : wf.cell? ⟨gz, 1, none⟩ = some (.int .i64 a2_1) := (blk_cell BKz.out 1).trans rfl; have hyf1 := blk_frozen BKz.out 1; have hy2 : wf.cell? ⟨gz, 2, none⟩ = some (.bool a2_2) := (blk_cell BKz.out 2).trans rfl; have hyf2 := blk_frozen BKz.out 2) | ((with_reducible refine gate_callee (f := 12) rfl ?_); refine goesL_ (some 34) rfl rfl Try.func12 (by kernel_rfl) rfl #[] rfl (by (try simp only [List.map_toArray, List.map_cons, List.map_nil]); first | done | rfl | (simp only [List.length_drop, List.length_take]; rfl)) ?_; (with_reducible refine (coupletlaw04_awake.calls 90 true _ coupletlaw04_awake.some_).mono ?_); rintro e wa ⟨rfl, hb⟩; refine ⟨_, rfl, ?_⟩; have n3_ := Aside0.mk (below_step (by repeat (first | (with_reducible first | exact HB.out | apply below_alloc | apply pw_below_drewN | apply below_drew1 | refine below_set ?_ GE397.out | refine below_set ?_ GE398.out | refine below_set ?_ GE399.out | refine below_set ?_ GEz.out) | exact HB.out)) hb); clear HB hb; have HB := n3_; clear n3_))
       go_ret
       exact ⟨by subst hr; first | rfl | (simp; done), (by repeat (first | (with_reducible first | exact HB.out | apply below_alloc | apply pw_below_drewN | apply below_drew1 | refine below_set ?_ GE397.out | refine below_set ?_ GE398.out | refine below_set ?_ GE399.out | refine below_set ?_ GEz.out) | exact HB.out))⟩
      ·
       have d4 : decide (128 < a2_1) = false := decide_eq_false f4
       have HG := Aside0.mk (show (Fr.fineP a2_0 a2_1 a2_2 = true ∧ -128 ≤ a2_0 ∧ a2_0 ≤ 128 ∧ a2_1 ≤ 128) from ⟨f1, by omega, by omega, by omega⟩)
       go_wp2_with ((with_reducible refine gate_callee (f := 13) rfl ?_); refine goesL_ (some 17) rfl rfl Try.func13 (by kernel_rfl) rfl #[.agg #[.int .i64 a2_0, .int .i64 a2_1, .bool a2_2]] rfl (by (try simp only [List.map_toArray, List.map_cons, List.map_nil]); first | done | rfl | (simp only [List.length_drop, List.length_take]; rfl)) ?_; (with_reducible refine (coupletlaw04_fine.calls k a2_0 a2_1 a2_2 true _ AF.out).mono ?_); rintro e wf ⟨rfl, hb⟩; refine ⟨_, rfl, ?_⟩; have n0_ := Aside0.mk (blk_below (g := gb397) (o := .cells #[.int .i64 a0_0, .int .i64 a0_1, .bool a0_2] 23 (0, 0)) (by (repeat (first | (with_reducible first | refine blk_drewN ?_ _ | refine blk_drew ?_ | refine blk_alloc ?_ _) | refine blk_far ?_ NZ0.out _)); exact BK397.out) hb); have n1_ := Aside0.mk (blk_below (g := gb398) (o := .cells #[.int .i64 a1_0, .int .i64 a1_1, .bool a1_2] 23 (0, 0)) (by (repeat (first | (with_reducible first | refine blk_drewN ?_ _ | refine blk_drew ?_ | refine blk_alloc ?_ _) | refine blk_far ?_ NZ1.out _)); exact BK398.out) hb); have n2_ := Aside0.mk (blk_below (g := gb399) (o := .cells #[.int .i64 a2_0, .int .i64 a2_1, .bool a2_2] 23 (0, 0)) (by (repeat (first | (with_reducible first | refine blk_drewN ?_ _ | refine blk_drew ?_ | refine blk_alloc ?_ _) | refine blk_far ?_ NZ2.out _)); exact BK399.out) hb); have n3_ := Aside0.mk (below_step (by repeat (first | (with_reducible first | exact HB.out | apply below_alloc | apply pw_below_drewN | apply below_drew1 | refine below_set ?_ GE397.out | refine below_set ?_ GE398.out | refine below_set ?_ GE399.out | refine below_set ?_ GEz.out) | exact HB.out)) hb); have n4_ := Aside0.mk (blk_below (g := gz) (o := .cells #[.int .i64 a2_0, .int .i64 a2_1, .bool a2_2] 23 (0, 0)) (by (with_reducible repeat (first | refine blk_drewN ?_ _ | refine blk_drew ?_ | refine blk_alloc ?_ _)); refine blk_put (cs := #[.int .i64 a2_0, .int .i64 a2_1, .bool false]) ?_ 2 _ rfl; (with_reducible repeat (first | refine blk_drewN ?_ _ | refine blk_drew ?_ | refine blk_alloc ?_ _)); refine blk_put (cs := #[.int .i64 a2_0, .int .i64 0, .bool false]) ?_ 1 _ rfl; (with_reducible repeat (first | refine blk_drewN ?_ _ | refine blk_drew ?_ | refine blk_alloc ?_ _)); refine blk_put (cs := #[.int .i64 0, .int .i64 0, .bool false]) ?_ 0 _ rfl; (with_reducible repeat (first | refine blk_drewN ?_ _ | refine blk_drew ?_ | refine blk_alloc ?_ _)); exact BKz.out) hb); clear BK397 BK398 BK399 HB BKz hb; have BK397 := n0_; have BK398 := n1_; have BK399 := n2_; have HB := n3_; have BKz := n4_; clear n0_ n1_ n2_ n3_ n4_; have hy0 : wf.cell? ⟨gz, 0, none⟩ = some (.int .i64 a2_0) := (blk_cell BKz.out 0).trans rfl; have hyf0 := blk_frozen BKz.out 0; have hy1 : wf.cell? ⟨gz, 1, none⟩ = some (.int .i64 a2_1) := (blk_cell BKz.out 1).trans rfl; have hyf1 := blk_frozen BKz.out 1; have hy2 : wf.cell? ⟨gz, 2, none⟩ = some (.bool a2_2) := (blk_cell BKz.out 2).trans rfl; have hyf2 := blk_frozen BKz.out 2)
       go_roundg (gk - 1)
       case measure => have := HI.out; omega
       case rel => exact ⟨3, (by first | rfl | (simp; done)), ⟨by omega, by have := HI.out; omega⟩, ⟨fun _ => HP.out.1 (by omega), fun _ => HP.out.2.1 (by omega), fun _ => HG.out⟩, ⟨(by (repeat (first | (with_reducible first | refine blk_drewN ?_ _ | refine blk_drew ?_ | refine blk_alloc ?_ _) | refine blk_far ?_ NZ0.out _)); exact BK397.out)⟩, ⟨(by (repeat (first | (with_reducible first | refine blk_drewN ?_ _ | refine blk_drew ?_ | refine blk_alloc ?_ _) | refine blk_far ?_ NZ1.out _)); exact BK398.out)⟩, ⟨(by (repeat (first | (with_reducible first | refine blk_drewN ?_ _ | refine blk_drew ?_ | refine blk_alloc ?_ _) | refine blk_far ?_ NZ2.out _)); exact BK399.out)⟩, ⟨by repeat (first | (with_reducible first | exact HB.out | apply below_alloc | apply pw_below_drewN | apply below_drew1 | refine below_set ?_ GE397.out | refine below_set ?_ GE398.out | refine below_set ?_ GE399.out | refine below_set ?_ GEz.out) | exact HB.out)⟩⟩
   ·
    have f1' : Fr.fineP a2_0 a2_1 a2_2 = false := by simpa using f1
    rw [f1'] at AF
    go_wp2_with (first | ((with_reducible refine gate_callee (f := 13) rfl ?_); refine goesL_ (some 17) rfl rfl Try.func13 (by kernel_rfl) rfl #[.agg #[.int .i64 a2_0, .int .i64 a2_1, .bool a2_2]] rfl (by (try simp only [List.map_toArray, List.map_cons, List.map_nil]); first | done | rfl | (simp only [List.length_drop, List.length_take]; rfl)) ?_; (with_reducible refine (coupletlaw04_fine.calls k a2_0 a2_1 a2_2 false _ AF.out).mono ?_); rintro e wf ⟨rfl, hb⟩; refine ⟨_, rfl, ?_⟩; have n0_ := Aside0.mk (blk_below (g := gb397) (o := .cells #[.int .i64 a0_0, .int .i64 a0_1, .bool a0_2] 23 (0, 0)) (by (repeat (first | (with_reducible first | refine blk_drewN ?_ _ | refine blk_drew ?_ | refine blk_alloc ?_ _) | refine blk_far ?_ NZ0.out _)); exact BK397.out) hb); have n1_ := Aside0.mk (blk_below (g := gb398) (o := .cells #[.int .i64 a1_0, .int .i64 a1_1, .bool a1_2] 23 (0, 0)) (by (repeat (first | (with_reducible first | refine blk_drewN ?_ _ | refine blk_drew ?_ | refine blk_alloc ?_ _) | refine blk_far ?_ NZ1.out _)); exact BK398.out) hb); have n2_ := Aside0.mk (blk_below (g := gb399) (o := .cells #[.int .i64 a2_0, .int .i64 a2_1, .bool a2_2] 23 (0, 0)) (by (repeat (first | (with_reducible first | refine blk_drewN ?_ _ | refine blk_drew ?_ | refine blk_alloc ?_ _) | refine blk_far ?_ NZ2.out _)); exact BK399.out) hb); have n3_ := Aside0.mk (below_step (by repeat (first | (with_reducible first | exact HB.out | apply below_alloc | apply pw_below_drewN | apply below_drew1 | refine below_set ?_ GE397.out | refine below_set ?_ GE398.out | refine below_set ?_ GE399.out | refine below_set ?_ GEz.out) | exact HB.out)) hb); have n4_ := Aside0.mk (blk_below (g := gz) (o := .cells #[.int .i64 a2_0, .int .i64 a2_1, .bool a2_2] 23 (0, 0)) (by (with_reducible repeat (first | refine blk_drewN ?_ _ | refine blk_drew ?_ | refine blk_alloc ?_ _)); refine blk_put (cs := #[.int .i64 a2_0, .int .i64 a2_1, .bool false]) ?_ 2 _ rfl; (with_reducible repeat (first | refine blk_drewN ?_ _ | refine blk_drew ?_ | refine blk_alloc ?_ _)); refine blk_put (cs := #[.int .i64 a2_0, .int .i64 0, .bool false]) ?_ 1 _ rfl; (with_reducible repeat (first | refine blk_drewN ?_ _ | refine blk_drew ?_ | refine blk_alloc ?_ _)); refine blk_put (cs := #[.int .i64 0, .int .i64 0, .bool false]) ?_ 0 _ rfl; (with_reducible repeat (first | refine blk_drewN ?_ _ | refine blk_drew ?_ | refine blk_alloc ?_ _)); exact BKz.out) hb); clear BK397 BK398 BK399 HB BKz hb; have BK397 := n0_; have BK398 := n1_; have BK399 := n2_; have HB := n3_; have BKz := n4_; clear n0_ n1_ n2_ n3_ n4_; have hy0 : wf.cell? ⟨gz, 0, none⟩ = some (.int .i64 a2_0) := (blk_cell BKz.out 0).trans rfl; have hyf0 := blk_frozen BKz.out 0; have hy1 : wf.cell? ⟨gz, 1, none⟩ = some (.int .i64 a2_1) := (blk_cell BKz.out 1).trans rfl; have hyf1 := blk_frozen BKz.out 1; have hy2 : wf.cell? ⟨gz, 2, none⟩ = some (.bool a2_2) := (blk_cell BKz.out 2).trans rfl; have hyf2 := blk_frozen BKz.out 2) | ((with_reducible refine gate_callee (f := 12) rfl ?_); refine goesL_ (some 34) rfl rfl Try.func12 (by kernel_rfl) rfl #[] rfl (by (try simp only [List.map_toArray, List.map_cons, List.map_nil]); first | done | rfl | (simp only [List.length_drop, List.length_take]; rfl)) ?_; (with_reducible refine (coupletlaw04_awake.calls 90 true _ coupletlaw04_awake.some_).mono ?_); rintro e wa ⟨rfl, hb⟩; refine ⟨_, rfl, ?_⟩; have n3_ := Aside0.mk (below_step (by repeat (first | (with_reducible first | exact HB.out | apply below_alloc | apply pw_below_drewN | apply below_drew1 | refine below_set ?_ GE397.out | refine below_set ?_ GE398.out | refine below_set ?_ GE399.out | refine below_set ?_ GEz.out) | exact HB.out)) hb); clear HB hb; have HB := n3_; clear n3_))
    go_ret
    exact ⟨by subst hr; first | rfl | (simp; done), (by repeat (first | (with_reducible first | exact HB.out | apply below_alloc | apply pw_below_drewN | apply below_drew1 | refine below_set ?_ GE397.out | refine below_set ?_ GE398.out | refine below_set ?_ GE399.out | refine below_set ?_ GEz.out) | exact HB.out))⟩
  ·
   have h := HH.out ⟨HP.out.1 (by omega), HP.out.2.1 (by omega), HP.out.2.2 (by omega)⟩
   clear HH HP HI HK
   have HC4 := Aside0.mk h
   clear h
   go_upto_region 7 with (fail)
   go_cut [86] (fun v86 wc => ∃ (kq : Nat) (x86_3 : Bool), v86 = .bool x86_3 ∧ Aside0 (coupletlaw04_FracRules.j0 kq x86_3 a0_0 a0_1 a0_2 a1_0 a1_1 a1_2 a2_0 a2_1 a2_2 = some r) ∧ Aside0 (kq ≤ k) ∧ Aside0 (wc.heap[gb397]? = some (.cells #[.int .i64 a0_0, .int .i64 a0_1, .bool a0_2] 23 (0, 0))) ∧ Aside0 (wc.heap[gb398]? = some (.cells #[.int .i64 a1_0, .int .i64 a1_1, .bool a1_2] 23 (0, 0))) ∧ Aside0 (wc.heap[gb399]? = some (.cells #[.int .i64 a2_0, .int .i64 a2_1, .bool a2_2] 23 (0, 0))) ∧ Aside0 (Below w.heap.size w wc))
   case first =>
    have H := HC4.out
    clear HC4
    replace H := Option.bind_eq_some_iff.mp H
    obtain ⟨⟨t400, t401, t402⟩, A80, H⟩ := H
    replace H : ((frac_Frac_Add.f k a1_0 a1_1 a1_2 a0_0 a0_1 a0_2).bind fun bt403 => (if (!(t400 == bt403.1) || (!(t401 == bt403.2.1) || (!(t402 == bt403.2.2)))) = true then (coupletlaw04_FracRules.j0 k true a0_0 a0_1 a0_2 a1_0 a1_1 a1_2 a2_0 a2_1 a2_2) else ((frac_Frac_Mul.f k a0_0 a0_1 a0_2 a1_0 a1_1 a1_2).bind fun bt406 => ((frac_Frac_Mul.f k a1_0 a1_1 a1_2 a0_0 a0_1 a0_2).bind fun bt409 => (if (!(bt406.1 == bt409.1) || (!(bt406.2.1 == bt409.2.1) || (!(bt406.2.2 == bt409.2.2)))) = true then (coupletlaw04_FracRules.j0 k true a0_0 a0_1 a0_2 a1_0 a1_1 a1_2 a2_0 a2_1 a2_2) else ((frac_Frac_Add.f k a0_0 a0_1 a0_2 a1_0 a1_1 a1_2).bind fun bt412 => ((frac_Frac_Add.f k bt412.1 bt412.2.1 bt412.2.2 a2_0 a2_1 a2_2).bind fun bt415 => ((frac_Frac_Add.f k a1_0 a1_1 a1_2 a2_0 a2_1 a2_2).bind fun bt418 => ((frac_Frac_Add.f k a0_0 a0_1 a0_2 bt418.1 bt418.2.1 bt418.2.2).bind fun bt421 => (if (!(bt415.1 == bt421.1) || (!(bt415.2.1 == bt421.2.1) || (!(bt415.2.2 == bt421.2.2)))) = true then (coupletlaw04_FracRules.j0 k true a0_0 a0_1 a0_2 a1_0 a1_1 a1_2 a2_0 a2_1 a2_2) else ((frac_Frac_Mul.f k a0_0 a0_1 a0_2 a1_0 a1_1 a1_2).bind fun bt424 => ((frac_Frac_Mul.f k bt424.1 bt424.2.1 bt424.2.2 a2_0 a2_1 a2_2).bind fun bt427 => ((frac_Frac_Mul.f k a1_0 a1_1 a1_2 a2_0 a2_1 a2_2).bind fun bt430 => ((frac_Frac_Mul.f k a0_0 a0_1 a0_2 bt430.1 bt430.2.1 bt430.2.2).bind fun bt433 => (if (!(bt427.1 == bt433.1) || (!(bt427.2.1 == bt433.2.1) || (!(bt427.2.2 == bt433.2.2)))) = true then (coupletlaw04_FracRules.j0 k true a0_0 a0_1 a0_2 a1_0 a1_1 a1_2 a2_0 a2_1 a2_2) else ((frac_Frac_Add.f k a0_0 a0_1 a0_2 a1_0 a1_1 a1_2).bind fun bt436 => ((frac_Frac_Sub.f k bt436.1 bt436.2.1 bt436.2.2 a1_0 a1_1 a1_2).bind fun bt439 => (coupletlaw04_FracRules.j0 k (!(bt439.1 == a0_0) || (!(bt439.2.1 == a0_1) || (!(bt439.2.2 == a0_2)))) a0_0 a0_1 a0_2 a1_0 a1_1 a1_2 a2_0 a2_1 a2_2)))))))))))))))))) = some r := H
    have A8 := Aside0.mk A80
    clear A80
    replace H := Option.bind_eq_some_iff.mp H
    obtain ⟨⟨t403, t404, t405⟩, A90, H⟩ := H
    replace H : (if (!(t400 == t403) || (!(t401 == t404) || (!(t402 == t405)))) = true then (coupletlaw04_FracRules.j0 k true a0_0 a0_1 a0_2 a1_0 a1_1 a1_2 a2_0 a2_1 a2_2) else ((frac_Frac_Mul.f k a0_0 a0_1 a0_2 a1_0 a1_1 a1_2).bind fun bt406 => ((frac_Frac_Mul.f k a1_0 a1_1 a1_2 a0_0 a0_1 a0_2).bind fun bt409 => (if (!(bt406.1 == bt409.1) || (!(bt406.2.1 == bt409.2.1) || (!(bt406.2.2 == bt409.2.2)))) = true then (coupletlaw04_FracRules.j0 k true a0_0 a0_1 a0_2 a1_0 a1_1 a1_2 a2_0 a2_1 a2_2) else ((frac_Frac_Add.f k a0_0 a0_1 a0_2 a1_0 a1_1 a1_2).bind fun bt412 => ((frac_Frac_Add.f k bt412.1 bt412.2.1 bt412.2.2 a2_0 a2_1 a2_2).bind fun bt415 => ((frac_Frac_Add.f k a1_0 a1_1 a1_2 a2_0 a2_1 a2_2).bind fun bt418 => ((frac_Frac_Add.f k a0_0 a0_1 a0_2 bt418.1 bt418.2.1 bt418.2.2).bind fun bt421 => (if (!(bt415.1 == bt421.1) || (!(bt415.2.1 == bt421.2.1) || (!(bt415.2.2 == bt421.2.2)))) = true then (coupletlaw04_FracRules.j0 k true a0_0 a0_1 a0_2 a1_0 a1_1 a1_2 a2_0 a2_1 a2_2) else ((frac_Frac_Mul.f k a0_0 a0_1 a0_2 a1_0 a1_1 a1_2).bind fun bt424 => ((frac_Frac_Mul.f k bt424.1 bt424.2.1 bt424.2.2 a2_0 a2_1 a2_2).bind fun bt427 => ((frac_Frac_Mul.f k a1_0 a1_1 a1_2 a2_0 a2_1 a2_2).bind fun bt430 => ((frac_Frac_Mul.f k a0_0 a0_1 a0_2 bt430.1 bt430.2.1 bt430.2.2).bind fun bt433 => (if (!(bt427.1 == bt433.1) || (!(bt427.2.1 == bt433.2.1) || (!(bt427.2.2 == bt433.2.2)))) = true then (coupletlaw04_FracRules.j0 k true a0_0 a0_1 a0_2 a1_0 a1_1 a1_2 a2_0 a2_1 a2_2) else ((frac_Frac_Add.f k a0_0 a0_1 a0_2 a1_0 a1_1 a1_2).bind fun bt436 => ((frac_Frac_Sub.f k bt436.1 bt436.2.1 bt436.2.2 a1_0 a1_1 a1_2).bind fun bt439 => (coupletlaw04_FracRules.j0 k (!(bt439.1 == a0_0) || (!(bt439.2.1 == a0_1) || (!(bt439.2.2 == a0_2)))) a0_0 a0_1 a0_2 a1_0 a1_1 a1_2 a2_0 a2_1 a2_2))))))))))))))))) = some r := H
    have A9 := Aside0.mk A90
    clear A90
    by_cases c10 : (!(t400 == t403) || (!(t401 == t404) || (!(t402 == t405)))) = true
    ·
     rw [if_pos c10] at H
     exact (coupletlaw04_FracRules.j0_true hr H).elim
    ·
     rw [if_neg c10] at H
     have c10b0 : (!(t400 == t403) || (!(t401 == t404) || (!(t402 == t405)))) = false := by simpa using c10
     clear c10
     (first | rw [c10b0] | (simp only [i64_w, i32_w]; rw [c10b0]) | skip)
     replace H := Option.bind_eq_some_iff.mp H
     obtain ⟨⟨t406, t407, t408⟩, A140, H⟩ := H
     replace H : ((frac_Frac_Mul.f k a1_0 a1_1 a1_2 a0_0 a0_1 a0_2).bind fun bt409 => (if (!(t406 == bt409.1) || (!(t407 == bt409.2.1) || (!(t408 == bt409.2.2)))) = true then (coupletlaw04_FracRules.j0 k true a0_0 a0_1 a0_2 a1_0 a1_1 a1_2 a2_0 a2_1 a2_2) else ((frac_Frac_Add.f k a0_0 a0_1 a0_2 a1_0 a1_1 a1_2).bind fun bt412 => ((frac_Frac_Add.f k bt412.1 bt412.2.1 bt412.2.2 a2_0 a2_1 a2_2).bind fun bt415 => ((frac_Frac_Add.f k a1_0 a1_1 a1_2 a2_0 a2_1 a2_2).bind fun bt418 => ((frac_Frac_Add.f k a0_0 a0_1 a0_2 bt418.1 bt418.2.1 bt418.2.2).bind fun bt421 => (if (!(bt415.1 == bt421.1) || (!(bt415.2.1 == bt421.2.1) || (!(bt415.2.2 == bt421.2.2)))) = true then (coupletlaw04_FracRules.j0 k true a0_0 a0_1 a0_2 a1_0 a1_1 a1_2 a2_0 a2_1 a2_2) else ((frac_Frac_Mul.f k a0_0 a0_1 a0_2 a1_0 a1_1 a1_2).bind fun bt424 => ((frac_Frac_Mul.f k bt424.1 bt424.2.1 bt424.2.2 a2_0 a2_1 a2_2).bind fun bt427 => ((frac_Frac_Mul.f k a1_0 a1_1 a1_2 a2_0 a2_1 a2_2).bind fun bt430 => ((frac_Frac_Mul.f k a0_0 a0_1 a0_2 bt430.1 bt430.2.1 bt430.2.2).bind fun bt433 => (if (!(bt427.1 == bt433.1) || (!(bt427.2.1 == bt433.2.1) || (!(bt427.2.2 == bt433.2.2)))) = true then (coupletlaw04_FracRules.j0 k true a0_0 a0_1 a0_2 a1_0 a1_1 a1_2 a2_0 a2_1 a2_2) else ((frac_Frac_Add.f k a0_0 a0_1 a0_2 a1_0 a1_1 a1_2).bind fun bt436 => ((frac_Frac_Sub.f k bt436.1 bt436.2.1 bt436.2.2 a1_0 a1_1 a1_2).bind fun bt439 => (coupletlaw04_FracRules.j0 k (!(bt439.1 == a0_0) || (!(bt439.2.1 == a0_1) || (!(bt439.2.2 == a0_2)))) a0_0 a0_1 a0_2 a1_0 a1_1 a1_2 a2_0 a2_1 a2_2))))))))))))))) = some r := H
     have A14 := Aside0.mk A140
     clear A140
     replace H := Option.bind_eq_some_iff.mp H
     obtain ⟨⟨t409, t410, t411⟩, A150, H⟩ := H
     replace H : (if (!(t406 == t409) || (!(t407 == t410) || (!(t408 == t411)))) = true then (coupletlaw04_FracRules.j0 k true a0_0 a0_1 a0_2 a1_0 a1_1 a1_2 a2_0 a2_1 a2_2) else ((frac_Frac_Add.f k a0_0 a0_1 a0_2 a1_0 a1_1 a1_2).bind fun bt412 => ((frac_Frac_Add.f k bt412.1 bt412.2.1 bt412.2.2 a2_0 a2_1 a2_2).bind fun bt415 => ((frac_Frac_Add.f k a1_0 a1_1 a1_2 a2_0 a2_1 a2_2).bind fun bt418 => ((frac_Frac_Add.f k a0_0 a0_1 a0_2 bt418.1 bt418.2.1 bt418.2.2).bind fun bt421 => (if (!(bt415.1 == bt421.1) || (!(bt415.2.1 == bt421.2.1) || (!(bt415.2.2 == bt421.2.2)))) = true then (coupletlaw04_FracRules.j0 k true a0_0 a0_1 a0_2 a1_0 a1_1 a1_2 a2_0 a2_1 a2_2) else ((frac_Frac_Mul.f k a0_0 a0_1 a0_2 a1_0 a1_1 a1_2).bind fun bt424 => ((frac_Frac_Mul.f k bt424.1 bt424.2.1 bt424.2.2 a2_0 a2_1 a2_2).bind fun bt427 => ((frac_Frac_Mul.f k a1_0 a1_1 a1_2 a2_0 a2_1 a2_2).bind fun bt430 => ((frac_Frac_Mul.f k a0_0 a0_1 a0_2 bt430.1 bt430.2.1 bt430.2.2).bind fun bt433 => (if (!(bt427.1 == bt433.1) || (!(bt427.2.1 == bt433.2.1) || (!(bt427.2.2 == bt433.2.2)))) = true then (coupletlaw04_FracRules.j0 k true a0_0 a0_1 a0_2 a1_0 a1_1 a1_2 a2_0 a2_1 a2_2) else ((frac_Frac_Add.f k a0_0 a0_1 a0_2 a1_0 a1_1 a1_2).bind fun bt436 => ((frac_Frac_Sub.f k bt436.1 bt436.2.1 bt436.2.2 a1_0 a1_1 a1_2).bind fun bt439 => (coupletlaw04_FracRules.j0 k (!(bt439.1 == a0_0) || (!(bt439.2.1 == a0_1) || (!(bt439.2.2 == a0_2)))) a0_0 a0_1 a0_2 a1_0 a1_1 a1_2 a2_0 a2_1 a2_2)))))))))))))) = some r := H
     have A15 := Aside0.mk A150
     clear A150
     by_cases c16 : (!(t406 == t409) || (!(t407 == t410) || (!(t408 == t411)))) = true
     ·
      rw [if_pos c16] at H
      exact (coupletlaw04_FracRules.j0_true hr H).elim
     ·
      rw [if_neg c16] at H
      have c16b0 : (!(t406 == t409) || (!(t407 == t410) || (!(t408 == t411)))) = false := by simpa using c16
      clear c16
      replace H := Option.bind_eq_some_iff.mp H
      obtain ⟨⟨t412, t413, t414⟩, A220, H⟩ := H
      replace H : ((frac_Frac_Add.f k t412 t413 t414 a2_0 a2_1 a2_2).bind fun bt415 => ((frac_Frac_Add.f k a1_0 a1_1 a1_2 a2_0 a2_1 a2_2).bind fun bt418 => ((frac_Frac_Add.f k a0_0 a0_1 a0_2 bt418.1 bt418.2.1 bt418.2.2).bind fun bt421 => (if (!(bt415.1 == bt421.1) || (!(bt415.2.1 == bt421.2.1) || (!(bt415.2.2 == bt421.2.2)))) = true then (coupletlaw04_FracRules.j0 k true a0_0 a0_1 a0_2 a1_0 a1_1 a1_2 a2_0 a2_1 a2_2) else ((frac_Frac_Mul.f k a0_0 a0_1 a0_2 a1_0 a1_1 a1_2).bind fun bt424 => ((frac_Frac_Mul.f k bt424.1 bt424.2.1 bt424.2.2 a2_0 a2_1 a2_2).bind fun bt427 => ((frac_Frac_Mul.f k a1_0 a1_1 a1_2 a2_0 a2_1 a2_2).bind fun bt430 => ((frac_Frac_Mul.f k a0_0 a0_1 a0_2 bt430.1 bt430.2.1 bt430.2.2).bind fun bt433 => (if (!(bt427.1 == bt433.1) || (!(bt427.2.1 == bt433.2.1) || (!(bt427.2.2 == bt433.2.2)))) = true then (coupletlaw04_FracRules.j0 k true a0_0 a0_1 a0_2 a1_0 a1_1 a1_2 a2_0 a2_1 a2_2) else ((frac_Frac_Add.f k a0_0 a0_1 a0_2 a1_0 a1_1 a1_2).bind fun bt436 => ((frac_Frac_Sub.f k bt436.1 bt436.2.1 bt436.2.2 a1_0 a1_1 a1_2).bind fun bt439 => (coupletlaw04_FracRules.j0 k (!(bt439.1 == a0_0) || (!(bt439.2.1 == a0_1) || (!(bt439.2.2 == a0_2)))) a0_0 a0_1 a0_2 a1_0 a1_1 a1_2 a2_0 a2_1 a2_2)))))))))))) = some r := H
      have A22 := Aside0.mk A220
      clear A220
      have e_ := Option.some.inj (A8.out.symm.trans A22.out)
      simp only [Prod.mk.injEq] at e_
      obtain ⟨rfl, rfl, rfl⟩ := e_
      replace H := Option.bind_eq_some_iff.mp H
      obtain ⟨⟨t415, t416, t417⟩, A230, H⟩ := H
      replace H : ((frac_Frac_Add.f k a1_0 a1_1 a1_2 a2_0 a2_1 a2_2).bind fun bt418 => ((frac_Frac_Add.f k a0_0 a0_1 a0_2 bt418.1 bt418.2.1 bt418.2.2).bind fun bt421 => (if (!(t415 == bt421.1) || (!(t416 == bt421.2.1) || (!(t417 == bt421.2.2)))) = true then (coupletlaw04_FracRules.j0 k true a0_0 a0_1 a0_2 a1_0 a1_1 a1_2 a2_0 a2_1 a2_2) else ((frac_Frac_Mul.f k a0_0 a0_1 a0_2 a1_0 a1_1 a1_2).bind fun bt424 => ((frac_Frac_Mul.f k bt424.1 bt424.2.1 bt424.2.2 a2_0 a2_1 a2_2).bind fun bt427 => ((frac_Frac_Mul.f k a1_0 a1_1 a1_2 a2_0 a2_1 a2_2).bind fun bt430 => ((frac_Frac_Mul.f k a0_0 a0_1 a0_2 bt430.1 bt430.2.1 bt430.2.2).bind fun bt433 => (if (!(bt427.1 == bt433.1) || (!(bt427.2.1 == bt433.2.1) || (!(bt427.2.2 == bt433.2.2)))) = true then (coupletlaw04_FracRules.j0 k true a0_0 a0_1 a0_2 a1_0 a1_1 a1_2 a2_0 a2_1 a2_2) else ((frac_Frac_Add.f k a0_0 a0_1 a0_2 a1_0 a1_1 a1_2).bind fun bt436 => ((frac_Frac_Sub.f k bt436.1 bt436.2.1 bt436.2.2 a1_0 a1_1 a1_2).bind fun bt439 => (coupletlaw04_FracRules.j0 k (!(bt439.1 == a0_0) || (!(bt439.2.1 == a0_1) || (!(bt439.2.2 == a0_2)))) a0_0 a0_1 a0_2 a1_0 a1_1 a1_2 a2_0 a2_1 a2_2))))))))))) = some r := H
      have A23 := Aside0.mk A230
      clear A230
      replace H := Option.bind_eq_some_iff.mp H
      obtain ⟨⟨t418, t419, t420⟩, A240, H⟩ := H
      replace H : ((frac_Frac_Add.f k a0_0 a0_1 a0_2 t418 t419 t420).bind fun bt421 => (if (!(t415 == bt421.1) || (!(t416 == bt421.2.1) || (!(t417 == bt421.2.2)))) = true then (coupletlaw04_FracRules.j0 k true a0_0 a0_1 a0_2 a1_0 a1_1 a1_2 a2_0 a2_1 a2_2) else ((frac_Frac_Mul.f k a0_0 a0_1 a0_2 a1_0 a1_1 a1_2).bind fun bt424 => ((frac_Frac_Mul.f k bt424.1 bt424.2.1 bt424.2.2 a2_0 a2_1 a2_2).bind fun bt427 => ((frac_Frac_Mul.f k a1_0 a1_1 a1_2 a2_0 a2_1 a2_2).bind fun bt430 => ((frac_Frac_Mul.f k a0_0 a0_1 a0_2 bt430.1 bt430.2.1 bt430.2.2).bind fun bt433 => (if (!(bt427.1 == bt433.1) || (!(bt427.2.1 == bt433.2.1) || (!(bt427.2.2 == bt433.2.2)))) = true then (coupletlaw04_FracRules.j0 k true a0_0 a0_1 a0_2 a1_0 a1_1 a1_2 a2_0 a2_1 a2_2) else ((frac_Frac_Add.f k a0_0 a0_1 a0_2 a1_0 a1_1 a1_2).bind fun bt436 => ((frac_Frac_Sub.f k bt436.1 bt436.2.1 bt436.2.2 a1_0 a1_1 a1_2).bind fun bt439 => (coupletlaw04_FracRules.j0 k (!(bt439.1 == a0_0) || (!(bt439.2.1 == a0_1) || (!(bt439.2.2 == a0_2)))) a0_0 a0_1 a0_2 a1_0 a1_1 a1_2 a2_0 a2_1 a2_2)))))))))) = some r := H
      have A24 := Aside0.mk A240
      clear A240
      replace H := Option.bind_eq_some_iff.mp H
      obtain ⟨⟨t421, t422, t423⟩, A250, H⟩ := H
      replace H : (if (!(t415 == t421) || (!(t416 == t422) || (!(t417 == t423)))) = true then (coupletlaw04_FracRules.j0 k true a0_0 a0_1 a0_2 a1_0 a1_1 a1_2 a2_0 a2_1 a2_2) else ((frac_Frac_Mul.f k a0_0 a0_1 a0_2 a1_0 a1_1 a1_2).bind fun bt424 => ((frac_Frac_Mul.f k bt424.1 bt424.2.1 bt424.2.2 a2_0 a2_1 a2_2).bind fun bt427 => ((frac_Frac_Mul.f k a1_0 a1_1 a1_2 a2_0 a2_1 a2_2).bind fun bt430 => ((frac_Frac_Mul.f k a0_0 a0_1 a0_2 bt430.1 bt430.2.1 bt430.2.2).bind fun bt433 => (if (!(bt427.1 == bt433.1) || (!(bt427.2.1 == bt433.2.1) || (!(bt427.2.2 == bt433.2.2)))) = true then (coupletlaw04_FracRules.j0 k true a0_0 a0_1 a0_2 a1_0 a1_1 a1_2 a2_0 a2_1 a2_2) else ((frac_Frac_Add.f k a0_0 a0_1 a0_2 a1_0 a1_1 a1_2).bind fun bt436 => ((frac_Frac_Sub.f k bt436.1 bt436.2.1 bt436.2.2 a1_0 a1_1 a1_2).bind fun bt439 => (coupletlaw04_FracRules.j0 k (!(bt439.1 == a0_0) || (!(bt439.2.1 == a0_1) || (!(bt439.2.2 == a0_2)))) a0_0 a0_1 a0_2 a1_0 a1_1 a1_2 a2_0 a2_1 a2_2))))))))) = some r := H
      have A25 := Aside0.mk A250
      clear A250
      by_cases c26 : (!(t415 == t421) || (!(t416 == t422) || (!(t417 == t423)))) = true
      ·
       rw [if_pos c26] at H
       exact (coupletlaw04_FracRules.j0_true hr H).elim
      ·
       rw [if_neg c26] at H
       have c26b0 : (!(t415 == t421) || (!(t416 == t422) || (!(t417 == t423)))) = false := by simpa using c26
       clear c26
       replace H := Option.bind_eq_some_iff.mp H
       obtain ⟨⟨t424, t425, t426⟩, A360, H⟩ := H
       replace H : ((frac_Frac_Mul.f k t424 t425 t426 a2_0 a2_1 a2_2).bind fun bt427 => ((frac_Frac_Mul.f k a1_0 a1_1 a1_2 a2_0 a2_1 a2_2).bind fun bt430 => ((frac_Frac_Mul.f k a0_0 a0_1 a0_2 bt430.1 bt430.2.1 bt430.2.2).bind fun bt433 => (if (!(bt427.1 == bt433.1) || (!(bt427.2.1 == bt433.2.1) || (!(bt427.2.2 == bt433.2.2)))) = true then (coupletlaw04_FracRules.j0 k true a0_0 a0_1 a0_2 a1_0 a1_1 a1_2 a2_0 a2_1 a2_2) else ((frac_Frac_Add.f k a0_0 a0_1 a0_2 a1_0 a1_1 a1_2).bind fun bt436 => ((frac_Frac_Sub.f k bt436.1 bt436.2.1 bt436.2.2 a1_0 a1_1 a1_2).bind fun bt439 => (coupletlaw04_FracRules.j0 k (!(bt439.1 == a0_0) || (!(bt439.2.1 == a0_1) || (!(bt439.2.2 == a0_2)))) a0_0 a0_1 a0_2 a1_0 a1_1 a1_2 a2_0 a2_1 a2_2))))))) = some r := H
       have A36 := Aside0.mk A360
       clear A360
       have e_ := Option.some.inj (A14.out.symm.trans A36.out)
       simp only [Prod.mk.injEq] at e_
       obtain ⟨rfl, rfl, rfl⟩ := e_
       replace H := Option.bind_eq_some_iff.mp H
       obtain ⟨⟨t427, t428, t429⟩, A370, H⟩ := H
       replace H : ((frac_Frac_Mul.f k a1_0 a1_1 a1_2 a2_0 a2_1 a2_2).bind fun bt430 => ((frac_Frac_Mul.f k a0_0 a0_1 a0_2 bt430.1 bt430.2.1 bt430.2.2).bind fun bt433 => (if (!(t427 == bt433.1) || (!(t428 == bt433.2.1) || (!(t429 == bt433.2.2)))) = true then (coupletlaw04_FracRules.j0 k true a0_0 a0_1 a0_2 a1_0 a1_1 a1_2 a2_0 a2_1 a2_2) else ((frac_Frac_Add.f k a0_0 a0_1 a0_2 a1_0 a1_1 a1_2).bind fun bt436 => ((frac_Frac_Sub.f k bt436.1 bt436.2.1 bt436.2.2 a1_0 a1_1 a1_2).bind fun bt439 => (coupletlaw04_FracRules.j0 k (!(bt439.1 == a0_0) || (!(bt439.2.1 == a0_1) || (!(bt439.2.2 == a0_2)))) a0_0 a0_1 a0_2 a1_0 a1_1 a1_2 a2_0 a2_1 a2_2)))))) = some r := H
       have A37 := Aside0.mk A370
       clear A370
       replace H := Option.bind_eq_some_iff.mp H
       obtain ⟨⟨t430, t431, t432⟩, A380, H⟩ := H
       replace H : ((frac_Frac_Mul.f k a0_0 a0_1 a0_2 t430 t431 t432).bind fun bt433 => (if (!(t427 == bt433.1) || (!(t428 == bt433.2.1) || (!(t429 == bt433.2.2)))) = true then (coupletlaw04_FracRules.j0 k true a0_0 a0_1 a0_2 a1_0 a1_1 a1_2 a2_0 a2_1 a2_2) else ((frac_Frac_Add.f k a0_0 a0_1 a0_2 a1_0 a1_1 a1_2).bind fun bt436 => ((frac_Frac_Sub.f k bt436.1 bt436.2.1 bt436.2.2 a1_0 a1_1 a1_2).bind fun bt439 => (coupletlaw04_FracRules.j0 k (!(bt439.1 == a0_0) || (!(bt439.2.1 == a0_1) || (!(bt439.2.2 == a0_2)))) a0_0 a0_1 a0_2 a1_0 a1_1 a1_2 a2_0 a2_1 a2_2))))) = some r := H
       have A38 := Aside0.mk A380
       clear A380
       replace H := Option.bind_eq_some_iff.mp H
       obtain ⟨⟨t433, t434, t435⟩, A390, H⟩ := H
       replace H : (if (!(t427 == t433) || (!(t428 == t434) || (!(t429 == t435)))) = true then (coupletlaw04_FracRules.j0 k true a0_0 a0_1 a0_2 a1_0 a1_1 a1_2 a2_0 a2_1 a2_2) else ((frac_Frac_Add.f k a0_0 a0_1 a0_2 a1_0 a1_1 a1_2).bind fun bt436 => ((frac_Frac_Sub.f k bt436.1 bt436.2.1 bt436.2.2 a1_0 a1_1 a1_2).bind fun bt439 => (coupletlaw04_FracRules.j0 k (!(bt439.1 == a0_0) || (!(bt439.2.1 == a0_1) || (!(bt439.2.2 == a0_2)))) a0_0 a0_1 a0_2 a1_0 a1_1 a1_2 a2_0 a2_1 a2_2)))) = some r := H
       have A39 := Aside0.mk A390
       clear A390
       by_cases c40 : (!(t427 == t433) || (!(t428 == t434) || (!(t429 == t435)))) = true
       ·
        rw [if_pos c40] at H
        exact (coupletlaw04_FracRules.j0_true hr H).elim
       ·
        rw [if_neg c40] at H
        have c40b0 : (!(t427 == t433) || (!(t428 == t434) || (!(t429 == t435)))) = false := by simpa using c40
        clear c40
        replace H := Option.bind_eq_some_iff.mp H
        obtain ⟨⟨t436, t437, t438⟩, A540, H⟩ := H
        replace H : ((frac_Frac_Sub.f k t436 t437 t438 a1_0 a1_1 a1_2).bind fun bt439 => (coupletlaw04_FracRules.j0 k (!(bt439.1 == a0_0) || (!(bt439.2.1 == a0_1) || (!(bt439.2.2 == a0_2)))) a0_0 a0_1 a0_2 a1_0 a1_1 a1_2 a2_0 a2_1 a2_2)) = some r := H
        have A54 := Aside0.mk A540
        clear A540
        have e_ := Option.some.inj (A8.out.symm.trans A54.out)
        simp only [Prod.mk.injEq] at e_
        obtain ⟨rfl, rfl, rfl⟩ := e_
        replace H := Option.bind_eq_some_iff.mp H
        obtain ⟨⟨t439, t440, t441⟩, A550, H⟩ := H
        replace H : (coupletlaw04_FracRules.j0 k (!(t439 == a0_0) || (!(t440 == a0_1) || (!(t441 == a0_2)))) a0_0 a0_1 a0_2 a1_0 a1_1 a1_2 a2_0 a2_1 a2_2) = some r := H
        have A55 := Aside0.mk A550
        clear A550
        have H' := Aside0.mk H
        clear H
        try go_wp2
        have n0_ := Aside0.mk (blk_drew BK397.out)
        have n1_ := Aside0.mk (blk_drew BK398.out)
        have n2_ := Aside0.mk (blk_drew BK399.out)
        have n3_ := Aside0.mk (below_drew1 HB.out)
        clear BK397
        clear BK398
        clear BK399
        clear HB
        have BK397 := n0_
        have BK398 := n1_
        have BK399 := n2_
        have HB := n3_
        clear n0_ n1_ n2_ n3_
        refine start_ (n := 51) (S := fun w' => w'.cell? ⟨gb397, 0, none⟩ = some (.int .i64 a0_0) ∧ w'.cell? ⟨gb397, 1, none⟩ = some (.int .i64 a0_1) ∧ w'.cell? ⟨gb397, 2, none⟩ = some (.bool a0_2) ∧ w'.cell? ⟨gb398, 0, none⟩ = some (.int .i64 a1_0) ∧ w'.cell? ⟨gb398, 1, none⟩ = some (.int .i64 a1_1) ∧ w'.cell? ⟨gb398, 2, none⟩ = some (.bool a1_2) ∧ w'.cell? ⟨gb399, 0, none⟩ = some (.int .i64 a2_0) ∧ w'.cell? ⟨gb399, 1, none⟩ = some (.int .i64 a2_1) ∧ w'.cell? ⟨gb399, 2, none⟩ = some (.bool a2_2)) (ds := []) #[false, false, false, false, false, false, false, false, false, false, false, false, false, false, false, false, false, false, false, false, false, false, false, false, false, false, false, false, false, false, false, false, false, false, false, false, false, false, false, false, false, false, false, false, false, false, false, false, false, false, false] (by kernel_rfl) rfl rfl ⟨(blk_cell BK397.out 0).trans rfl, (blk_cell BK397.out 1).trans rfl, (blk_cell BK397.out 2).trans rfl, (blk_cell BK398.out 0).trans rfl, (blk_cell BK398.out 1).trans rfl, (blk_cell BK398.out 2).trans rfl, (blk_cell BK399.out 0).trans rfl, (blk_cell BK399.out 1).trans rfl, (blk_cell BK399.out 2).trans rfl⟩ (fun hHeld => ?_); refine with_tabW coupletlaw04_FracRules.tab7 coupletlaw04_FracRules.bits7 (fun HT_ HW_ => ?_)
        generalize wr.drew = w56 at BK397 BK398 BK399 HB hHeld ⊢
        refine take_ (i := 0) (N := some 36) (v := ?_) (a' := ?_) #[true, false, false, false, false, false, false, false, false, false, false, false, false, false, false, false, false, false, false, false, false, false, false, false, false, false, false, false, false, false, false, false, false, false, false, false, false, false, false, false, false, false, false, false, false, false, false, false, false, false, false] rfl rfl (take_ofW HT_.out HW_.out (by kernel_rfl)) (fun _ _ _ h => h) (Or.inl ⟨by rfl, ?_⟩) hHeld ?_ ?_
        rotate_left
        ·
         rintro w' ⟨s0, s1, s2, s3, s4, s5, s6, s7, s8⟩
         go_simp
         with_reducible rfl
        rotate_left
        ·
         simp only [Act.put, List.setIfInBounds_toArray, List.set_cons_zero, List.set_cons_succ, i64_w, i32_w]
         rfl
        refine take_ (i := 1) (N := some 37) (v := ?_) (a' := ?_) #[true, true, false, false, false, false, false, false, false, false, false, false, false, false, false, false, false, false, false, false, false, false, false, false, false, false, false, false, false, false, false, false, false, false, false, false, false, false, false, false, false, false, false, false, false, false, false, false, false, false, false] rfl rfl (take_ofW HT_.out HW_.out (by kernel_rfl)) (fun _ _ _ h => h) (Or.inl ⟨by rfl, ?_⟩) hHeld ?_ ?_
        rotate_left
        ·
         rintro w' ⟨s0, s1, s2, s3, s4, s5, s6, s7, s8⟩
         go_simp
         with_reducible rfl
        rotate_left
        ·
         simp only [Act.put, List.setIfInBounds_toArray, List.set_cons_zero, List.set_cons_succ, i64_w, i32_w]
         rfl
        refine take_ (i := 3) (N := some 39) (v := ?_) (a' := ?_) #[true, true, false, true, false, false, false, false, false, false, false, false, false, false, false, false, false, false, false, false, false, false, false, false, false, false, false, false, false, false, false, false, false, false, false, false, false, false, false, false, false, false, false, false, false, false, false, false, false, false, false] rfl rfl (take_ofW HT_.out HW_.out (by kernel_rfl)) (fun _ _ _ h => h) (Or.inl ⟨by rfl, ?_⟩) hHeld ?_ ?_
        rotate_left
        ·
         rintro w' ⟨s0, s1, s2, s3, s4, s5, s6, s7, s8⟩
         go_simp
         with_reducible rfl
        rotate_left
        ·
         simp only [Act.put, List.setIfInBounds_toArray, List.set_cons_zero, List.set_cons_succ, i64_w, i32_w]
         rfl
        refine take_ (i := 4) (N := some 40) (v := ?_) (a' := ?_) #[true, true, false, true, true, false, false, false, false, false, false, false, false, false, false, false, false, false, false, false, false, false, false, false, false, false, false, false, false, false, false, false, false, false, false, false, false, false, false, false, false, false, false, false, false, false, false, false, false, false, false] rfl rfl (take_ofW HT_.out HW_.out (by kernel_rfl)) (fun _ _ _ h => h) (Or.inl ⟨by rfl, ?_⟩) hHeld ?_ ?_
        rotate_left
        ·
         rintro w' ⟨s0, s1, s2, s3, s4, s5, s6, s7, s8⟩
         go_simp
         with_reducible rfl
        rotate_left
        ·
         simp only [Act.put, List.setIfInBounds_toArray, List.set_cons_zero, List.set_cons_succ, i64_w, i32_w]
         rfl
        refine one_ (i := 2) (N := some 38) #[true, true, true, true, true, false, false, false, false, false, false, false, false, false, false, false, false, false, false, false, false, false, false, false, false, false, false, false, false, false, false, false, false, false, false, false, false, false, false, false, false, false, false, false, false, false, false, false, false, false, false] rfl rfl (one_of HT_.out (by kernel_rfl)) (by decide) (fun K hK => ?_)
        refine goes_ Try.func24 (by kernel_rfl) rfl #[.agg #[.int .i64 a0_0, .int .i64 a0_1, .bool a0_2], .agg #[.int .i64 a1_0, .int .i64 a1_1, .bool a1_2]] (by rfl) rfl rfl (by (try simp only [List.map_toArray, List.map_cons, List.map_nil]); first | done | rfl | (simp only [List.length_drop, List.length_take]; rfl)) ?_
        with_reducible refine (frac_Frac_Add.calls k a0_0 a0_1 a0_2 a1_0 a1_1 a1_2 t400 t401 t402 _ A8.out).mono ?_
        rintro e w57 ⟨rfl, hb⟩
        refine ⟨_, rfl, ?_⟩
        have n0_ := Aside0.mk (blk_below (g := gb397) (o := .cells #[.int .i64 a0_0, .int .i64 a0_1, .bool a0_2] 23 (0, 0)) (by (with_reducible repeat (first | refine blk_drewN ?_ _ | refine blk_drew ?_ | refine blk_alloc ?_ _)); exact BK397.out) hb)
        have n1_ := Aside0.mk (blk_below (g := gb398) (o := .cells #[.int .i64 a1_0, .int .i64 a1_1, .bool a1_2] 23 (0, 0)) (by (with_reducible repeat (first | refine blk_drewN ?_ _ | refine blk_drew ?_ | refine blk_alloc ?_ _)); exact BK398.out) hb)
        have n2_ := Aside0.mk (blk_below (g := gb399) (o := .cells #[.int .i64 a2_0, .int .i64 a2_1, .bool a2_2] 23 (0, 0)) (by (with_reducible repeat (first | refine blk_drewN ?_ _ | refine blk_drew ?_ | refine blk_alloc ?_ _)); exact BK399.out) hb)
        have n3_ := Aside0.mk (below_step (by repeat (first | (with_reducible first | exact HB.out | apply below_alloc | apply pw_below_drewN | apply below_drew1 | refine below_set ?_ GE397.out | refine below_set ?_ GE398.out | refine below_set ?_ GE399.out) | exact HB.out)) hb)
        clear BK397
        clear BK398
        clear BK399
        clear HB
        have BK397 := n0_
        have BK398 := n1_
        have BK399 := n2_
        have HB := n3_
        clear n0_ n1_ n2_ n3_
        (try clear hb)
        (try clear hb2)
        (try clear hk)
        (try clear hi)
        refine hK.out _ _ ⟨(blk_cell BK397.out 0).trans rfl, (blk_cell BK397.out 1).trans rfl, (blk_cell BK397.out 2).trans rfl, (blk_cell BK398.out 0).trans rfl, (blk_cell BK398.out 1).trans rfl, (blk_cell BK398.out 2).trans rfl, (blk_cell BK399.out 0).trans rfl, (blk_cell BK399.out 1).trans rfl, (blk_cell BK399.out 2).trans rfl⟩ (fun hHeld => ?_)
        clear hK K
        refine norm_ (a' := ?_) ?_ ?_
        rotate_left
        ·
         show Act.put _ (some 38) _ = _
         simp only [Act.put, List.setIfInBounds_toArray, List.set_cons_zero, List.set_cons_succ, i64_w, i32_w]
         rfl
        refine one_ (i := 5) (N := some 41) #[true, true, true, true, true, true, false, false, false, false, false, false, false, false, false, false, false, false, false, false, false, false, false, false, false, false, false, false, false, false, false, false, false, false, false, false, false, false, false, false, false, false, false, false, false, false, false, false, false, false, false] rfl rfl (one_of HT_.out (by kernel_rfl)) (by decide) (fun K hK => ?_)
        refine goes_ Try.func24 (by kernel_rfl) rfl #[.agg #[.int .i64 a1_0, .int .i64 a1_1, .bool a1_2], .agg #[.int .i64 a0_0, .int .i64 a0_1, .bool a0_2]] (by rfl) rfl rfl (by (try simp only [List.map_toArray, List.map_cons, List.map_nil]); first | done | rfl | (simp only [List.length_drop, List.length_take]; rfl)) ?_
        with_reducible refine (frac_Frac_Add.calls k a1_0 a1_1 a1_2 a0_0 a0_1 a0_2 t403 t404 t405 _ A9.out).mono ?_
        rintro e w58 ⟨rfl, hb⟩
        refine ⟨_, rfl, ?_⟩
        have n0_ := Aside0.mk (blk_below (g := gb397) (o := .cells #[.int .i64 a0_0, .int .i64 a0_1, .bool a0_2] 23 (0, 0)) (by (with_reducible repeat (first | refine blk_drewN ?_ _ | refine blk_drew ?_ | refine blk_alloc ?_ _)); exact BK397.out) hb)
        have n1_ := Aside0.mk (blk_below (g := gb398) (o := .cells #[.int .i64 a1_0, .int .i64 a1_1, .bool a1_2] 23 (0, 0)) (by (with_reducible repeat (first | refine blk_drewN ?_ _ | refine blk_drew ?_ | refine blk_alloc ?_ _)); exact BK398.out) hb)
        have n2_ := Aside0.mk (blk_below (g := gb399) (o := .cells #[.int .i64 a2_0, .int .i64 a2_1, .bool a2_2] 23 (0, 0)) (by (with_reducible repeat (first | refine blk_drewN ?_ _ | refine blk_drew ?_ | refine blk_alloc ?_ _)); exact BK399.out) hb)
        have n3_ := Aside0.mk (below_step (by repeat (first | (with_reducible first | exact HB.out | apply below_alloc | apply pw_below_drewN | apply below_drew1 | refine below_set ?_ GE397.out | refine below_set ?_ GE398.out | refine below_set ?_ GE399.out) | exact HB.out)) hb)
        clear BK397
        clear BK398
        clear BK399
        clear HB
        have BK397 := n0_
        have BK398 := n1_
        have BK399 := n2_
        have HB := n3_
        clear n0_ n1_ n2_ n3_
        (try clear hb)
        (try clear hb2)
        (try clear hk)
        (try clear hi)
        refine hK.out _ _ ⟨(blk_cell BK397.out 0).trans rfl, (blk_cell BK397.out 1).trans rfl, (blk_cell BK397.out 2).trans rfl, (blk_cell BK398.out 0).trans rfl, (blk_cell BK398.out 1).trans rfl, (blk_cell BK398.out 2).trans rfl, (blk_cell BK399.out 0).trans rfl, (blk_cell BK399.out 1).trans rfl, (blk_cell BK399.out 2).trans rfl⟩ (fun hHeld => ?_)
        clear hK K
        refine norm_ (a' := ?_) ?_ ?_
        rotate_left
        ·
         show Act.put _ (some 41) _ = _
         simp only [Act.put, List.setIfInBounds_toArray, List.set_cons_zero, List.set_cons_succ, i64_w, i32_w]
         rfl
        refine pure_ (i := 6) (N := some 42) (v := ?_) (a' := ?_) #[true, true, true, true, true, true, true, false, false, false, false, false, false, false, false, false, false, false, false, false, false, false, false, false, false, false, false, false, false, false, false, false, false, false, false, false, false, false, false, false, false, false, false, false, false, false, false, false, false, false, false] rfl rfl (any_of HT_.out (by kernel_rfl)) (fun _ _ _ h => h) (Or.inl ⟨by rfl, ?_⟩) ?_ ?_
        rotate_left
        ·
         intro w'
         go_simp
         with_reducible rfl
        rotate_left
        ·
         simp only [Act.put, List.setIfInBounds_toArray, List.set_cons_zero, List.set_cons_succ, i64_w, i32_w]
         rfl
        refine pure_ (i := 7) (N := some 43) (v := ?_) (a' := ?_) #[true, true, true, true, true, true, true, true, false, false, false, false, false, false, false, false, false, false, false, false, false, false, false, false, false, false, false, false, false, false, false, false, false, false, false, false, false, false, false, false, false, false, false, false, false, false, false, false, false, false, false] rfl rfl (any_of HT_.out (by kernel_rfl)) (fun _ _ _ h => h) (Or.inl ⟨by rfl, ?_⟩) ?_ ?_
        rotate_left
        ·
         intro w'
         go_simp
         with_reducible rfl
        rotate_left
        ·
         simp only [Act.put, List.setIfInBounds_toArray, List.set_cons_zero, List.set_cons_succ, i64_w, i32_w]
         rfl
        refine take_ (i := 8) (N := some 44) (v := ?_) (a' := ?_) #[true, true, true, true, true, true, true, true, true, false, false, false, false, false, false, false, false, false, false, false, false, false, false, false, false, false, false, false, false, false, false, false, false, false, false, false, false, false, false, false, false, false, false, false, false, false, false, false, false, false, false] rfl rfl (take_ofW HT_.out HW_.out (by kernel_rfl)) (fun _ _ _ h => h) (Or.inl ⟨by rfl, ?_⟩) hHeld ?_ ?_
        rotate_left
        ·
         rintro w' ⟨s0, s1, s2, s3, s4, s5, s6, s7, s8⟩
         go_simp
         with_reducible rfl
        rotate_left
        ·
         simp only [Act.put, List.setIfInBounds_toArray, List.set_cons_zero, List.set_cons_succ, i64_w, i32_w]
         rfl
        refine take_ (i := 9) (N := some 45) (v := ?_) (a' := ?_) #[true, true, true, true, true, true, true, true, true, true, false, false, false, false, false, false, false, false, false, false, false, false, false, false, false, false, false, false, false, false, false, false, false, false, false, false, false, false, false, false, false, false, false, false, false, false, false, false, false, false, false] rfl rfl (take_ofW HT_.out HW_.out (by kernel_rfl)) (fun _ _ _ h => h) (Or.inl ⟨by rfl, ?_⟩) hHeld ?_ ?_
        rotate_left
        ·
         rintro w' ⟨s0, s1, s2, s3, s4, s5, s6, s7, s8⟩
         go_simp
         with_reducible rfl
        rotate_left
        ·
         simp only [Act.put, List.setIfInBounds_toArray, List.set_cons_zero, List.set_cons_succ, i64_w, i32_w]
         rfl
        refine take_ (i := 11) (N := some 47) (v := ?_) (a' := ?_) #[true, true, true, true, true, true, true, true, true, true, false, true, false, false, false, false, false, false, false, false, false, false, false, false, false, false, false, false, false, false, false, false, false, false, false, false, false, false, false, false, false, false, false, false, false, false, false, false, false, false, false] rfl rfl (take_ofW HT_.out HW_.out (by kernel_rfl)) (fun _ _ _ h => h) (Or.inl ⟨by rfl, ?_⟩) hHeld ?_ ?_
        rotate_left
        ·
         rintro w' ⟨s0, s1, s2, s3, s4, s5, s6, s7, s8⟩
         go_simp
         with_reducible rfl
        rotate_left
        ·
         simp only [Act.put, List.setIfInBounds_toArray, List.set_cons_zero, List.set_cons_succ, i64_w, i32_w]
         rfl
        refine take_ (i := 12) (N := some 48) (v := ?_) (a' := ?_) #[true, true, true, true, true, true, true, true, true, true, false, true, true, false, false, false, false, false, false, false, false, false, false, false, false, false, false, false, false, false, false, false, false, false, false, false, false, false, false, false, false, false, false, false, false, false, false, false, false, false, false] rfl rfl (take_ofW HT_.out HW_.out (by kernel_rfl)) (fun _ _ _ h => h) (Or.inl ⟨by rfl, ?_⟩) hHeld ?_ ?_
        rotate_left
        ·
         rintro w' ⟨s0, s1, s2, s3, s4, s5, s6, s7, s8⟩
         go_simp
         with_reducible rfl
        rotate_left
        ·
         simp only [Act.put, List.setIfInBounds_toArray, List.set_cons_zero, List.set_cons_succ, i64_w, i32_w]
         rfl
        refine one_ (i := 10) (N := some 46) #[true, true, true, true, true, true, true, true, true, true, true, true, true, false, false, false, false, false, false, false, false, false, false, false, false, false, false, false, false, false, false, false, false, false, false, false, false, false, false, false, false, false, false, false, false, false, false, false, false, false, false] rfl rfl (one_of HT_.out (by kernel_rfl)) (by decide) (fun K hK => ?_)
        refine goes_ Try.func23 (by kernel_rfl) rfl #[.agg #[.int .i64 a0_0, .int .i64 a0_1, .bool a0_2], .agg #[.int .i64 a1_0, .int .i64 a1_1, .bool a1_2]] (by rfl) rfl rfl (by (try simp only [List.map_toArray, List.map_cons, List.map_nil]); first | done | rfl | (simp only [List.length_drop, List.length_take]; rfl)) ?_
        with_reducible refine (frac_Frac_Mul.calls k a0_0 a0_1 a0_2 a1_0 a1_1 a1_2 t406 t407 t408 _ A14.out).mono ?_
        rintro e w59 ⟨rfl, hb⟩
        refine ⟨_, rfl, ?_⟩
        have n0_ := Aside0.mk (blk_below (g := gb397) (o := .cells #[.int .i64 a0_0, .int .i64 a0_1, .bool a0_2] 23 (0, 0)) (by (with_reducible repeat (first | refine blk_drewN ?_ _ | refine blk_drew ?_ | refine blk_alloc ?_ _)); exact BK397.out) hb)
        have n1_ := Aside0.mk (blk_below (g := gb398) (o := .cells #[.int .i64 a1_0, .int .i64 a1_1, .bool a1_2] 23 (0, 0)) (by (with_reducible repeat (first | refine blk_drewN ?_ _ | refine blk_drew ?_ | refine blk_alloc ?_ _)); exact BK398.out) hb)
        have n2_ := Aside0.mk (blk_below (g := gb399) (o := .cells #[.int .i64 a2_0, .int .i64 a2_1, .bool a2_2] 23 (0, 0)) (by (with_reducible repeat (first | refine blk_drewN ?_ _ | refine blk_drew ?_ | refine blk_alloc ?_ _)); exact BK399.out) hb)
        have n3_ := Aside0.mk (below_step (by repeat (first | (with_reducible first | exact HB.out | apply below_alloc | apply pw_below_drewN | apply below_drew1 | refine below_set ?_ GE397.out | refine below_set ?_ GE398.out | refine below_set ?_ GE399.out) | exact HB.out)) hb)
        clear BK397
        clear BK398
        clear BK399
        clear HB
        have BK397 := n0_
        have BK398 := n1_
        have BK399 := n2_
        have HB := n3_
        clear n0_ n1_ n2_ n3_
        (try clear hb)
        (try clear hb2)
        (try clear hk)
        (try clear hi)
        refine hK.out _ _ ⟨(blk_cell BK397.out 0).trans rfl, (blk_cell BK397.out 1).trans rfl, (blk_cell BK397.out 2).trans rfl, (blk_cell BK398.out 0).trans rfl, (blk_cell BK398.out 1).trans rfl, (blk_cell BK398.out 2).trans rfl, (blk_cell BK399.out 0).trans rfl, (blk_cell BK399.out 1).trans rfl, (blk_cell BK399.out 2).trans rfl⟩ (fun hHeld => ?_)
        clear hK K
        refine norm_ (a' := ?_) ?_ ?_
        rotate_left
        ·
         show Act.put _ (some 46) _ = _
         simp only [Act.put, List.setIfInBounds_toArray, List.set_cons_zero, List.set_cons_succ, i64_w, i32_w]
         rfl
        refine one_ (i := 13) (N := some 49) #[true, true, true, true, true, true, true, true, true, true, true, true, true, true, false, false, false, false, false, false, false, false, false, false, false, false, false, false, false, false, false, false, false, false, false, false, false, false, false, false, false, false, false, false, false, false, false, false, false, false, false] rfl rfl (one_of HT_.out (by kernel_rfl)) (by decide) (fun K hK => ?_)
        refine goes_ Try.func23 (by kernel_rfl) rfl #[.agg #[.int .i64 a1_0, .int .i64 a1_1, .bool a1_2], .agg #[.int .i64 a0_0, .int .i64 a0_1, .bool a0_2]] (by rfl) rfl rfl (by (try simp only [List.map_toArray, List.map_cons, List.map_nil]); first | done | rfl | (simp only [List.length_drop, List.length_take]; rfl)) ?_
        with_reducible refine (frac_Frac_Mul.calls k a1_0 a1_1 a1_2 a0_0 a0_1 a0_2 t409 t410 t411 _ A15.out).mono ?_
        rintro e w60 ⟨rfl, hb⟩
        refine ⟨_, rfl, ?_⟩
        have n0_ := Aside0.mk (blk_below (g := gb397) (o := .cells #[.int .i64 a0_0, .int .i64 a0_1, .bool a0_2] 23 (0, 0)) (by (with_reducible repeat (first | refine blk_drewN ?_ _ | refine blk_drew ?_ | refine blk_alloc ?_ _)); exact BK397.out) hb)
        have n1_ := Aside0.mk (blk_below (g := gb398) (o := .cells #[.int .i64 a1_0, .int .i64 a1_1, .bool a1_2] 23 (0, 0)) (by (with_reducible repeat (first | refine blk_drewN ?_ _ | refine blk_drew ?_ | refine blk_alloc ?_ _)); exact BK398.out) hb)
        have n2_ := Aside0.mk (blk_below (g := gb399) (o := .cells #[.int .i64 a2_0, .int .i64 a2_1, .bool a2_2] 23 (0, 0)) (by (with_reducible repeat (first | refine blk_drewN ?_ _ | refine blk_drew ?_ | refine blk_alloc ?_ _)); exact BK399.out) hb)
        have n3_ := Aside0.mk (below_step (by repeat (first | (with_reducible first | exact HB.out | apply below_alloc | apply pw_below_drewN | apply below_drew1 | refine below_set ?_ GE397.out | refine below_set ?_ GE398.out | refine below_set ?_ GE399.out) | exact HB.out)) hb)
        clear BK397
        clear BK398
        clear BK399
        clear HB
        have BK397 := n0_
        have BK398 := n1_
        have BK399 := n2_
        have HB := n3_
        clear n0_ n1_ n2_ n3_
        (try clear hb)
        (try clear hb2)
        (try clear hk)
        (try clear hi)
        refine hK.out _ _ ⟨(blk_cell BK397.out 0).trans rfl, (blk_cell BK397.out 1).trans rfl, (blk_cell BK397.out 2).trans rfl, (blk_cell BK398.out 0).trans rfl, (blk_cell BK398.out 1).trans rfl, (blk_cell BK398.out 2).trans rfl, (blk_cell BK399.out 0).trans rfl, (blk_cell BK399.out 1).trans rfl, (blk_cell BK399.out 2).trans rfl⟩ (fun hHeld => ?_)
        clear hK K
        refine norm_ (a' := ?_) ?_ ?_
        rotate_left
        ·
         show Act.put _ (some 49) _ = _
         simp only [Act.put, List.setIfInBounds_toArray, List.set_cons_zero, List.set_cons_succ, i64_w, i32_w]
         rfl
        refine pure_ (i := 14) (N := some 50) (v := ?_) (a' := ?_) #[true, true, true, true, true, true, true, true, true, true, true, true, true, true, true, false, false, false, false, false, false, false, false, false, false, false, false, false, false, false, false, false, false, false, false, false, false, false, false, false, false, false, false, false, false, false, false, false, false, false, false] rfl rfl (any_of HT_.out (by kernel_rfl)) (fun _ _ _ h => h) (Or.inl ⟨by rfl, ?_⟩) ?_ ?_
        rotate_left
        ·
         intro w'
         go_simp
         with_reducible rfl
        rotate_left
        ·
         simp only [Act.put, List.setIfInBounds_toArray, List.set_cons_zero, List.set_cons_succ, i64_w, i32_w]
         rfl
        refine pure_ (i := 15) (N := some 51) (v := ?_) (a' := ?_) #[true, true, true, true, true, true, true, true, true, true, true, true, true, true, true, true, false, false, false, false, false, false, false, false, false, false, false, false, false, false, false, false, false, false, false, false, false, false, false, false, false, false, false, false, false, false, false, false, false, false, false] rfl rfl (any_of HT_.out (by kernel_rfl)) (fun _ _ _ h => h) (Or.inl ⟨by rfl, ?_⟩) ?_ ?_
        rotate_left
        ·
         intro w'
         go_simp
         with_reducible rfl
        rotate_left
        ·
         simp only [Act.put, List.setIfInBounds_toArray, List.set_cons_zero, List.set_cons_succ, i64_w, i32_w]
         rfl
        refine pure_ (i := 16) (N := some 52) (v := ?_) (a' := ?_) #[true, true, true, true, true, true, true, true, true, true, true, true, true, true, true, true, true, false, false, false, false, false, false, false, false, false, false, false, false, false, false, false, false, false, false, false, false, false, false, false, false, false, false, false, false, false, false, false, false, false, false] rfl rfl (any_of HT_.out (by kernel_rfl)) (fun _ _ _ h => h) (Or.inl ⟨by rfl, ?_⟩) ?_ ?_
        rotate_left
        ·
         intro w'
         go_simp
         with_reducible rfl
        rotate_left
        ·
         simp only [Act.put, List.setIfInBounds_toArray, List.set_cons_zero, List.set_cons_succ, i64_w, i32_w]
         rfl
        refine take_ (i := 17) (N := some 53) (v := ?_) (a' := ?_) #[true, true, true, true, true, true, true, true, true, true, true, true, true, true, true, true, true, true, false, false, false, false, false, false, false, false, false, false, false, false, false, false, false, false, false, false, false, false, false, false, false, false, false, false, false, false, false, false, false, false, false] rfl rfl (take_ofW HT_.out HW_.out (by kernel_rfl)) (fun _ _ _ h => h) (Or.inl ⟨by rfl, ?_⟩) hHeld ?_ ?_
        rotate_left
        ·
         rintro w' ⟨s0, s1, s2, s3, s4, s5, s6, s7, s8⟩
         go_simp
         with_reducible rfl
        rotate_left
        ·
         simp only [Act.put, List.setIfInBounds_toArray, List.set_cons_zero, List.set_cons_succ, i64_w, i32_w]
         rfl
        refine take_ (i := 18) (N := some 54) (v := ?_) (a' := ?_) #[true, true, true, true, true, true, true, true, true, true, true, true, true, true, true, true, true, true, true, false, false, false, false, false, false, false, false, false, false, false, false, false, false, false, false, false, false, false, false, false, false, false, false, false, false, false, false, false, false, false, false] rfl rfl (take_ofW HT_.out HW_.out (by kernel_rfl)) (fun _ _ _ h => h) (Or.inl ⟨by rfl, ?_⟩) hHeld ?_ ?_
        rotate_left
        ·
         rintro w' ⟨s0, s1, s2, s3, s4, s5, s6, s7, s8⟩
         go_simp
         with_reducible rfl
        rotate_left
        ·
         simp only [Act.put, List.setIfInBounds_toArray, List.set_cons_zero, List.set_cons_succ, i64_w, i32_w]
         rfl
        refine take_ (i := 20) (N := some 56) (v := ?_) (a' := ?_) #[true, true, true, true, true, true, true, true, true, true, true, true, true, true, true, true, true, true, true, false, true, false, false, false, false, false, false, false, false, false, false, false, false, false, false, false, false, false, false, false, false, false, false, false, false, false, false, false, false, false, false] rfl rfl (take_ofW HT_.out HW_.out (by kernel_rfl)) (fun _ _ _ h => h) (Or.inl ⟨by rfl, ?_⟩) hHeld ?_ ?_
        rotate_left
        ·
         rintro w' ⟨s0, s1, s2, s3, s4, s5, s6, s7, s8⟩
         go_simp
         with_reducible rfl
        rotate_left
        ·
         simp only [Act.put, List.setIfInBounds_toArray, List.set_cons_zero, List.set_cons_succ, i64_w, i32_w]
         rfl
        refine take_ (i := 22) (N := some 58) (v := ?_) (a' := ?_) #[true, true, true, true, true, true, true, true, true, true, true, true, true, true, true, true, true, true, true, false, true, false, true, false, false, false, false, false, false, false, false, false, false, false, false, false, false, false, false, false, false, false, false, false, false, false, false, false, false, false, false] rfl rfl (take_ofW HT_.out HW_.out (by kernel_rfl)) (fun _ _ _ h => h) (Or.inl ⟨by rfl, ?_⟩) hHeld ?_ ?_
        rotate_left
        ·
         rintro w' ⟨s0, s1, s2, s3, s4, s5, s6, s7, s8⟩
         go_simp
         with_reducible rfl
        rotate_left
        ·
         simp only [Act.put, List.setIfInBounds_toArray, List.set_cons_zero, List.set_cons_succ, i64_w, i32_w]
         rfl
        refine take_ (i := 23) (N := some 59) (v := ?_) (a' := ?_) #[true, true, true, true, true, true, true, true, true, true, true, true, true, true, true, true, true, true, true, false, true, false, true, true, false, false, false, false, false, false, false, false, false, false, false, false, false, false, false, false, false, false, false, false, false, false, false, false, false, false, false] rfl rfl (take_ofW HT_.out HW_.out (by kernel_rfl)) (fun _ _ _ h => h) (Or.inl ⟨by rfl, ?_⟩) hHeld ?_ ?_
        rotate_left
        ·
         rintro w' ⟨s0, s1, s2, s3, s4, s5, s6, s7, s8⟩
         go_simp
         with_reducible rfl
        rotate_left
        ·
         simp only [Act.put, List.setIfInBounds_toArray, List.set_cons_zero, List.set_cons_succ, i64_w, i32_w]
         rfl
        refine take_ (i := 24) (N := some 60) (v := ?_) (a' := ?_) #[true, true, true, true, true, true, true, true, true, true, true, true, true, true, true, true, true, true, true, false, true, false, true, true, true, false, false, false, false, false, false, false, false, false, false, false, false, false, false, false, false, false, false, false, false, false, false, false, false, false, false] rfl rfl (take_ofW HT_.out HW_.out (by kernel_rfl)) (fun _ _ _ h => h) (Or.inl ⟨by rfl, ?_⟩) hHeld ?_ ?_
        rotate_left
        ·
         rintro w' ⟨s0, s1, s2, s3, s4, s5, s6, s7, s8⟩
         go_simp
         with_reducible rfl
        rotate_left
        ·
         simp only [Act.put, List.setIfInBounds_toArray, List.set_cons_zero, List.set_cons_succ, i64_w, i32_w]
         rfl
        refine one_ (i := 19) (N := some 55) #[true, true, true, true, true, true, true, true, true, true, true, true, true, true, true, true, true, true, true, true, true, false, true, true, true, false, false, false, false, false, false, false, false, false, false, false, false, false, false, false, false, false, false, false, false, false, false, false, false, false, false] rfl rfl (one_of HT_.out (by kernel_rfl)) (by decide) (fun K hK => ?_)
        refine goes_ Try.func24 (by kernel_rfl) rfl #[.agg #[.int .i64 a0_0, .int .i64 a0_1, .bool a0_2], .agg #[.int .i64 a1_0, .int .i64 a1_1, .bool a1_2]] (by rfl) rfl rfl (by (try simp only [List.map_toArray, List.map_cons, List.map_nil]); first | done | rfl | (simp only [List.length_drop, List.length_take]; rfl)) ?_
        with_reducible refine (frac_Frac_Add.calls k a0_0 a0_1 a0_2 a1_0 a1_1 a1_2 t400 t401 t402 _ A22.out).mono ?_
        rintro e w61 ⟨rfl, hb⟩
        refine ⟨_, rfl, ?_⟩
        have n0_ := Aside0.mk (blk_below (g := gb397) (o := .cells #[.int .i64 a0_0, .int .i64 a0_1, .bool a0_2] 23 (0, 0)) (by (with_reducible repeat (first | refine blk_drewN ?_ _ | refine blk_drew ?_ | refine blk_alloc ?_ _)); exact BK397.out) hb)
        have n1_ := Aside0.mk (blk_below (g := gb398) (o := .cells #[.int .i64 a1_0, .int .i64 a1_1, .bool a1_2] 23 (0, 0)) (by (with_reducible repeat (first | refine blk_drewN ?_ _ | refine blk_drew ?_ | refine blk_alloc ?_ _)); exact BK398.out) hb)
        have n2_ := Aside0.mk (blk_below (g := gb399) (o := .cells #[.int .i64 a2_0, .int .i64 a2_1, .bool a2_2] 23 (0, 0)) (by (with_reducible repeat (first | refine blk_drewN ?_ _ | refine blk_drew ?_ | refine blk_alloc ?_ _)); exact BK399.out) hb)
        have n3_ := Aside0.mk (below_step (by repeat (first | (with_reducible first | exact HB.out | apply below_alloc | apply pw_below_drewN | apply below_drew1 | refine below_set ?_ GE397.out | refine below_set ?_ GE398.out | refine below_set ?_ GE399.out) | exact HB.out)) hb)
        clear BK397
        clear BK398
        clear BK399
        clear HB
        have BK397 := n0_
        have BK398 := n1_
        have BK399 := n2_
        have HB := n3_
        clear n0_ n1_ n2_ n3_
        (try clear hb)
        (try clear hb2)
        (try clear hk)
        (try clear hi)
        refine hK.out _ _ ⟨(blk_cell BK397.out 0).trans rfl, (blk_cell BK397.out 1).trans rfl, (blk_cell BK397.out 2).trans rfl, (blk_cell BK398.out 0).trans rfl, (blk_cell BK398.out 1).trans rfl, (blk_cell BK398.out 2).trans rfl, (blk_cell BK399.out 0).trans rfl, (blk_cell BK399.out 1).trans rfl, (blk_cell BK399.out 2).trans rfl⟩ (fun hHeld => ?_)
        clear hK K
        refine norm_ (a' := ?_) ?_ ?_
        rotate_left
        ·
         show Act.put _ (some 55) _ = _
         simp only [Act.put, List.setIfInBounds_toArray, List.set_cons_zero, List.set_cons_succ, i64_w, i32_w]
         rfl
        refine one_ (i := 21) (N := some 57) #[true, true, true, true, true, true, true, true, true, true, true, true, true, true, true, true, true, true, true, true, true, true, true, true, true, false, false, false, false, false, false, false, false, false, false, false, false, false, false, false, false, false, false, false, false, false, false, false, false, false, false] rfl rfl (one_of HT_.out (by kernel_rfl)) (by decide) (fun K hK => ?_)
        refine goes_ Try.func24 (by kernel_rfl) rfl #[.agg #[.int .i64 t400, .int .i64 t401, .bool t402], .agg #[.int .i64 a2_0, .int .i64 a2_1, .bool a2_2]] (by rfl) rfl rfl (by (try simp only [List.map_toArray, List.map_cons, List.map_nil]); first | done | rfl | (simp only [List.length_drop, List.length_take]; rfl)) ?_
        with_reducible refine (frac_Frac_Add.calls k t400 t401 t402 a2_0 a2_1 a2_2 t415 t416 t417 _ A23.out).mono ?_
        rintro e w62 ⟨rfl, hb⟩
        refine ⟨_, rfl, ?_⟩
        have n0_ := Aside0.mk (blk_below (g := gb397) (o := .cells #[.int .i64 a0_0, .int .i64 a0_1, .bool a0_2] 23 (0, 0)) (by (with_reducible repeat (first | refine blk_drewN ?_ _ | refine blk_drew ?_ | refine blk_alloc ?_ _)); exact BK397.out) hb)
        have n1_ := Aside0.mk (blk_below (g := gb398) (o := .cells #[.int .i64 a1_0, .int .i64 a1_1, .bool a1_2] 23 (0, 0)) (by (with_reducible repeat (first | refine blk_drewN ?_ _ | refine blk_drew ?_ | refine blk_alloc ?_ _)); exact BK398.out) hb)
        have n2_ := Aside0.mk (blk_below (g := gb399) (o := .cells #[.int .i64 a2_0, .int .i64 a2_1, .bool a2_2] 23 (0, 0)) (by (with_reducible repeat (first | refine blk_drewN ?_ _ | refine blk_drew ?_ | refine blk_alloc ?_ _)); exact BK399.out) hb)
        have n3_ := Aside0.mk (below_step (by repeat (first | (with_reducible first | exact HB.out | apply below_alloc | apply pw_below_drewN | apply below_drew1 | refine below_set ?_ GE397.out | refine below_set ?_ GE398.out | refine below_set ?_ GE399.out) | exact HB.out)) hb)
        clear BK397
        clear BK398
        clear BK399
        clear HB
        have BK397 := n0_
        have BK398 := n1_
        have BK399 := n2_
        have HB := n3_
        clear n0_ n1_ n2_ n3_
        (try clear hb)
        (try clear hb2)
        (try clear hk)
        (try clear hi)
        refine hK.out _ _ ⟨(blk_cell BK397.out 0).trans rfl, (blk_cell BK397.out 1).trans rfl, (blk_cell BK397.out 2).trans rfl, (blk_cell BK398.out 0).trans rfl, (blk_cell BK398.out 1).trans rfl, (blk_cell BK398.out 2).trans rfl, (blk_cell BK399.out 0).trans rfl, (blk_cell BK399.out 1).trans rfl, (blk_cell BK399.out 2).trans rfl⟩ (fun hHeld => ?_)
        clear hK K
        refine norm_ (a' := ?_) ?_ ?_
        rotate_left
        ·
         show Act.put _ (some 57) _ = _
         simp only [Act.put, List.setIfInBounds_toArray, List.set_cons_zero, List.set_cons_succ, i64_w, i32_w]
         rfl
        refine one_ (i := 25) (N := some 61) #[true, true, true, true, true, true, true, true, true, true, true, true, true, true, true, true, true, true, true, true, true, true, true, true, true, true, false, false, false, false, false, false, false, false, false, false, false, false, false, false, false, false, false, false, false, false, false, false, false, false, false] rfl rfl (one_of HT_.out (by kernel_rfl)) (by decide) (fun K hK => ?_)
        refine goes_ Try.func24 (by kernel_rfl) rfl #[.agg #[.int .i64 a1_0, .int .i64 a1_1, .bool a1_2], .agg #[.int .i64 a2_0, .int .i64 a2_1, .bool a2_2]] (by rfl) rfl rfl (by (try simp only [List.map_toArray, List.map_cons, List.map_nil]); first | done | rfl | (simp only [List.length_drop, List.length_take]; rfl)) ?_
        with_reducible refine (frac_Frac_Add.calls k a1_0 a1_1 a1_2 a2_0 a2_1 a2_2 t418 t419 t420 _ A24.out).mono ?_
        rintro e w63 ⟨rfl, hb⟩
        refine ⟨_, rfl, ?_⟩
        have n0_ := Aside0.mk (blk_below (g := gb397) (o := .cells #[.int .i64 a0_0, .int .i64 a0_1, .bool a0_2] 23 (0, 0)) (by (with_reducible repeat (first | refine blk_drewN ?_ _ | refine blk_drew ?_ | refine blk_alloc ?_ _)); exact BK397.out) hb)
        have n1_ := Aside0.mk (blk_below (g := gb398) (o := .cells #[.int .i64 a1_0, .int .i64 a1_1, .bool a1_2] 23 (0, 0)) (by (with_reducible repeat (first | refine blk_drewN ?_ _ | refine blk_drew ?_ | refine blk_alloc ?_ _)); exact BK398.out) hb)
        have n2_ := Aside0.mk (blk_below (g := gb399) (o := .cells #[.int .i64 a2_0, .int .i64 a2_1, .bool a2_2] 23 (0, 0)) (by (with_reducible repeat (first | refine blk_drewN ?_ _ | refine blk_drew ?_ | refine blk_alloc ?_ _)); exact BK399.out) hb)
        have n3_ := Aside0.mk (below_step (by repeat (first | (with_reducible first | exact HB.out | apply below_alloc | apply pw_below_drewN | apply below_drew1 | refine below_set ?_ GE397.out | refine below_set ?_ GE398.out | refine below_set ?_ GE399.out) | exact HB.out)) hb)
        clear BK397
        clear BK398
        clear BK399
        clear HB
        have BK397 := n0_
        have BK398 := n1_
        have BK399 := n2_
        have HB := n3_
        clear n0_ n1_ n2_ n3_
        (try clear hb)
        (try clear hb2)
        (try clear hk)
        (try clear hi)
        refine hK.out _ _ ⟨(blk_cell BK397.out 0).trans rfl, (blk_cell BK397.out 1).trans rfl, (blk_cell BK397.out 2).trans rfl, (blk_cell BK398.out 0).trans rfl, (blk_cell BK398.out 1).trans rfl, (blk_cell BK398.out 2).trans rfl, (blk_cell BK399.out 0).trans rfl, (blk_cell BK399.out 1).trans rfl, (blk_cell BK399.out 2).trans rfl⟩ (fun hHeld => ?_)
        clear hK K
        refine norm_ (a' := ?_) ?_ ?_
        rotate_left
        ·
         show Act.put _ (some 61) _ = _
         simp only [Act.put, List.setIfInBounds_toArray, List.set_cons_zero, List.set_cons_succ, i64_w, i32_w]
         rfl
        refine one_ (i := 26) (N := some 62) #[true, true, true, true, true, true, true, true, true, true, true, true, true, true, true, true, true, true, true, true, true, true, true, true, true, true, true, false, false, false, false, false, false, false, false, false, false, false, false, false, false, false, false, false, false, false, false, false, false, false, false] rfl rfl (one_of HT_.out (by kernel_rfl)) (by decide) (fun K hK => ?_)
        refine goes_ Try.func24 (by kernel_rfl) rfl #[.agg #[.int .i64 a0_0, .int .i64 a0_1, .bool a0_2], .agg #[.int .i64 t418, .int .i64 t419, .bool t420]] (by rfl) rfl rfl (by (try simp only [List.map_toArray, List.map_cons, List.map_nil]); first | done | rfl | (simp only [List.length_drop, List.length_take]; rfl)) ?_
        with_reducible refine (frac_Frac_Add.calls k a0_0 a0_1 a0_2 t418 t419 t420 t421 t422 t423 _ A25.out).mono ?_
        rintro e w64 ⟨rfl, hb⟩
        refine ⟨_, rfl, ?_⟩
        have n0_ := Aside0.mk (blk_below (g := gb397) (o := .cells #[.int .i64 a0_0, .int .i64 a0_1, .bool a0_2] 23 (0, 0)) (by (with_reducible repeat (first | refine blk_drewN ?_ _ | refine blk_drew ?_ | refine blk_alloc ?_ _)); exact BK397.out) hb)
        have n1_ := Aside0.mk (blk_below (g := gb398) (o := .cells #[.int .i64 a1_0, .int .i64 a1_1, .bool a1_2] 23 (0, 0)) (by (with_reducible repeat (first | refine blk_drewN ?_ _ | refine blk_drew ?_ | refine blk_alloc ?_ _)); exact BK398.out) hb)
        have n2_ := Aside0.mk (blk_below (g := gb399) (o := .cells #[.int .i64 a2_0, .int .i64 a2_1, .bool a2_2] 23 (0, 0)) (by (with_reducible repeat (first | refine blk_drewN ?_ _ | refine blk_drew ?_ | refine blk_alloc ?_ _)); exact BK399.out) hb)
        have n3_ := Aside0.mk (below_step (by repeat (first | (with_reducible first | exact HB.out | apply below_alloc | apply pw_below_drewN | apply below_drew1 | refine below_set ?_ GE397.out | refine below_set ?_ GE398.out | refine below_set ?_ GE399.out) | exact HB.out)) hb)
        clear BK397
        clear BK398
        clear BK399
        clear HB
        have BK397 := n0_
        have BK398 := n1_
        have BK399 := n2_
        have HB := n3_
        clear n0_ n1_ n2_ n3_
        (try clear hb)
        (try clear hb2)
        (try clear hk)
        (try clear hi)
        refine hK.out _ _ ⟨(blk_cell BK397.out 0).trans rfl, (blk_cell BK397.out 1).trans rfl, (blk_cell BK397.out 2).trans rfl, (blk_cell BK398.out 0).trans rfl, (blk_cell BK398.out 1).trans rfl, (blk_cell BK398.out 2).trans rfl, (blk_cell BK399.out 0).trans rfl, (blk_cell BK399.out 1).trans rfl, (blk_cell BK399.out 2).trans rfl⟩ (fun hHeld => ?_)
        clear hK K
        refine norm_ (a' := ?_) ?_ ?_
        rotate_left
        ·
         show Act.put _ (some 62) _ = _
         simp only [Act.put, List.setIfInBounds_toArray, List.set_cons_zero, List.set_cons_succ, i64_w, i32_w]
         rfl
        refine pure_ (i := 27) (N := some 63) (v := ?_) (a' := ?_) #[true, true, true, true, true, true, true, true, true, true, true, true, true, true, true, true, true, true, true, true, true, true, true, true, true, true, true, true, false, false, false, false, false, false, false, false, false, false, false, false, false, false, false, false, false, false, false, false, false, false, false] rfl rfl (any_of HT_.out (by kernel_rfl)) (fun _ _ _ h => h) (Or.inl ⟨by rfl, ?_⟩) ?_ ?_
        rotate_left
        ·
         intro w'
         go_simp
         with_reducible rfl
        rotate_left
        ·
         simp only [Act.put, List.setIfInBounds_toArray, List.set_cons_zero, List.set_cons_succ, i64_w, i32_w]
         rfl
        refine pure_ (i := 28) (N := some 64) (v := ?_) (a' := ?_) #[true, true, true, true, true, true, true, true, true, true, true, true, true, true, true, true, true, true, true, true, true, true, true, true, true, true, true, true, true, false, false, false, false, false, false, false, false, false, false, false, false, false, false, false, false, false, false, false, false, false, false] rfl rfl (any_of HT_.out (by kernel_rfl)) (fun _ _ _ h => h) (Or.inl ⟨by rfl, ?_⟩) ?_ ?_
        rotate_left
        ·
         intro w'
         go_simp
         with_reducible rfl
        rotate_left
        ·
         simp only [Act.put, List.setIfInBounds_toArray, List.set_cons_zero, List.set_cons_succ, i64_w, i32_w]
         rfl
        refine pure_ (i := 29) (N := some 65) (v := ?_) (a' := ?_) #[true, true, true, true, true, true, true, true, true, true, true, true, true, true, true, true, true, true, true, true, true, true, true, true, true, true, true, true, true, true, false, false, false, false, false, false, false, false, false, false, false, false, false, false, false, false, false, false, false, false, false] rfl rfl (any_of HT_.out (by kernel_rfl)) (fun _ _ _ h => h) (Or.inl ⟨by rfl, ?_⟩) ?_ ?_
        rotate_left
        ·
         intro w'
         go_simp
         with_reducible rfl
        rotate_left
        ·
         simp only [Act.put, List.setIfInBounds_toArray, List.set_cons_zero, List.set_cons_succ, i64_w, i32_w]
         rfl
        refine take_ (i := 30) (N := some 66) (v := ?_) (a' := ?_) #[true, true, true, true, true, true, true, true, true, true, true, true, true, true, true, true, true, true, true, true, true, true, true, true, true, true, true, true, true, true, true, false, false, false, false, false, false, false, false, false, false, false, false, false, false, false, false, false, false, false, false] rfl rfl (take_ofW HT_.out HW_.out (by kernel_rfl)) (fun _ _ _ h => h) (Or.inl ⟨by rfl, ?_⟩) hHeld ?_ ?_
        rotate_left
        ·
         rintro w' ⟨s0, s1, s2, s3, s4, s5, s6, s7, s8⟩
         go_simp
         with_reducible rfl
        rotate_left
        ·
         simp only [Act.put, List.setIfInBounds_toArray, List.set_cons_zero, List.set_cons_succ, i64_w, i32_w]
         rfl
        refine take_ (i := 31) (N := some 67) (v := ?_) (a' := ?_) #[true, true, true, true, true, true, true, true, true, true, true, true, true, true, true, true, true, true, true, true, true, true, true, true, true, true, true, true, true, true, true, true, false, false, false, false, false, false, false, false, false, false, false, false, false, false, false, false, false, false, false] rfl rfl (take_ofW HT_.out HW_.out (by kernel_rfl)) (fun _ _ _ h => h) (Or.inl ⟨by rfl, ?_⟩) hHeld ?_ ?_
        rotate_left
        ·
         rintro w' ⟨s0, s1, s2, s3, s4, s5, s6, s7, s8⟩
         go_simp
         with_reducible rfl
        rotate_left
        ·
         simp only [Act.put, List.setIfInBounds_toArray, List.set_cons_zero, List.set_cons_succ, i64_w, i32_w]
         rfl
        refine take_ (i := 33) (N := some 69) (v := ?_) (a' := ?_) #[true, true, true, true, true, true, true, true, true, true, true, true, true, true, true, true, true, true, true, true, true, true, true, true, true, true, true, true, true, true, true, true, false, true, false, false, false, false, false, false, false, false, false, false, false, false, false, false, false, false, false] rfl rfl (take_ofW HT_.out HW_.out (by kernel_rfl)) (fun _ _ _ h => h) (Or.inl ⟨by rfl, ?_⟩) hHeld ?_ ?_
        rotate_left
        ·
         rintro w' ⟨s0, s1, s2, s3, s4, s5, s6, s7, s8⟩
         go_simp
         with_reducible rfl
        rotate_left
        ·
         simp only [Act.put, List.setIfInBounds_toArray, List.set_cons_zero, List.set_cons_succ, i64_w, i32_w]
         rfl
        refine take_ (i := 35) (N := some 71) (v := ?_) (a' := ?_) #[true, true, true, true, true, true, true, true, true, true, true, true, true, true, true, true, true, true, true, true, true, true, true, true, true, true, true, true, true, true, true, true, false, true, false, true, false, false, false, false, false, false, false, false, false, false, false, false, false, false, false] rfl rfl (take_ofW HT_.out HW_.out (by kernel_rfl)) (fun _ _ _ h => h) (Or.inl ⟨by rfl, ?_⟩) hHeld ?_ ?_
        rotate_left
        ·
         rintro w' ⟨s0, s1, s2, s3, s4, s5, s6, s7, s8⟩
         go_simp
         with_reducible rfl
        rotate_left
        ·
         simp only [Act.put, List.setIfInBounds_toArray, List.set_cons_zero, List.set_cons_succ, i64_w, i32_w]
         rfl
        refine take_ (i := 36) (N := some 72) (v := ?_) (a' := ?_) #[true, true, true, true, true, true, true, true, true, true, true, true, true, true, true, true, true, true, true, true, true, true, true, true, true, true, true, true, true, true, true, true, false, true, false, true, true, false, false, false, false, false, false, false, false, false, false, false, false, false, false] rfl rfl (take_ofW HT_.out HW_.out (by kernel_rfl)) (fun _ _ _ h => h) (Or.inl ⟨by rfl, ?_⟩) hHeld ?_ ?_
        rotate_left
        ·
         rintro w' ⟨s0, s1, s2, s3, s4, s5, s6, s7, s8⟩
         go_simp
         with_reducible rfl
        rotate_left
        ·
         simp only [Act.put, List.setIfInBounds_toArray, List.set_cons_zero, List.set_cons_succ, i64_w, i32_w]
         rfl
        refine take_ (i := 37) (N := some 73) (v := ?_) (a' := ?_) #[true, true, true, true, true, true, true, true, true, true, true, true, true, true, true, true, true, true, true, true, true, true, true, true, true, true, true, true, true, true, true, true, false, true, false, true, true, true, false, false, false, false, false, false, false, false, false, false, false, false, false] rfl rfl (take_ofW HT_.out HW_.out (by kernel_rfl)) (fun _ _ _ h => h) (Or.inl ⟨by rfl, ?_⟩) hHeld ?_ ?_
        rotate_left
        ·
         rintro w' ⟨s0, s1, s2, s3, s4, s5, s6, s7, s8⟩
         go_simp
         with_reducible rfl
        rotate_left
        ·
         simp only [Act.put, List.setIfInBounds_toArray, List.set_cons_zero, List.set_cons_succ, i64_w, i32_w]
         rfl
        refine one_ (i := 32) (N := some 68) #[true, true, true, true, true, true, true, true, true, true, true, true, true, true, true, true, true, true, true, true, true, true, true, true, true, true, true, true, true, true, true, true, true, true, false, true, true, true, false, false, false, false, false, false, false, false, false, false, false, false, false] rfl rfl (one_of HT_.out (by kernel_rfl)) (by decide) (fun K hK => ?_)
        refine goes_ Try.func23 (by kernel_rfl) rfl #[.agg #[.int .i64 a0_0, .int .i64 a0_1, .bool a0_2], .agg #[.int .i64 a1_0, .int .i64 a1_1, .bool a1_2]] (by rfl) rfl rfl (by (try simp only [List.map_toArray, List.map_cons, List.map_nil]); first | done | rfl | (simp only [List.length_drop, List.length_take]; rfl)) ?_
        with_reducible refine (frac_Frac_Mul.calls k a0_0 a0_1 a0_2 a1_0 a1_1 a1_2 t406 t407 t408 _ A36.out).mono ?_
        rintro e w65 ⟨rfl, hb⟩
        refine ⟨_, rfl, ?_⟩
        have n0_ := Aside0.mk (blk_below (g := gb397) (o := .cells #[.int .i64 a0_0, .int .i64 a0_1, .bool a0_2] 23 (0, 0)) (by (with_reducible repeat (first | refine blk_drewN ?_ _ | refine blk_drew ?_ | refine blk_alloc ?_ _)); exact BK397.out) hb)
        have n1_ := Aside0.mk (blk_below (g := gb398) (o := .cells #[.int .i64 a1_0, .int .i64 a1_1, .bool a1_2] 23 (0, 0)) (by (with_reducible repeat (first | refine blk_drewN ?_ _ | refine blk_drew ?_ | refine blk_alloc ?_ _)); exact BK398.out) hb)
        have n2_ := Aside0.mk (blk_below (g := gb399) (o := .cells #[.int .i64 a2_0, .int .i64 a2_1, .bool a2_2] 23 (0, 0)) (by (with_reducible repeat (first | refine blk_drewN ?_ _ | refine blk_drew ?_ | refine blk_alloc ?_ _)); exact BK399.out) hb)
        have n3_ := Aside0.mk (below_step (by repeat (first | (with_reducible first | exact HB.out | apply below_alloc | apply pw_below_drewN | apply below_drew1 | refine below_set ?_ GE397.out | refine below_set ?_ GE398.out | refine below_set ?_ GE399.out) | exact HB.out)) hb)
        clear BK397
        clear BK398
        clear BK399
        clear HB
        have BK397 := n0_
        have BK398 := n1_
        have BK399 := n2_
        have HB := n3_
        clear n0_ n1_ n2_ n3_
        (try clear hb)
        (try clear hb2)
        (try clear hk)
        (try clear hi)
        refine hK.out _ _ ⟨(blk_cell BK397.out 0).trans rfl, (blk_cell BK397.out 1).trans rfl, (blk_cell BK397.out 2).trans rfl, (blk_cell BK398.out 0).trans rfl, (blk_cell BK398.out 1).trans rfl, (blk_cell BK398.out 2).trans rfl, (blk_cell BK399.out 0).trans rfl, (blk_cell BK399.out 1).trans rfl, (blk_cell BK399.out 2).trans rfl⟩ (fun hHeld => ?_)
        clear hK K
        refine norm_ (a' := ?_) ?_ ?_
        rotate_left
        ·
         show Act.put _ (some 68) _ = _
         simp only [Act.put, List.setIfInBounds_toArray, List.set_cons_zero, List.set_cons_succ, i64_w, i32_w]
         rfl
        refine one_ (i := 34) (N := some 70) #[true, true, true, true, true, true, true, true, true, true, true, true, true, true, true, true, true, true, true, true, true, true, true, true, true, true, true, true, true, true, true, true, true, true, true, true, true, true, false, false, false, false, false, false, false, false, false, false, false, false, false] rfl rfl (one_of HT_.out (by kernel_rfl)) (by decide) (fun K hK => ?_)
        refine goes_ Try.func23 (by kernel_rfl) rfl #[.agg #[.int .i64 t406, .int .i64 t407, .bool t408], .agg #[.int .i64 a2_0, .int .i64 a2_1, .bool a2_2]] (by rfl) rfl rfl (by (try simp only [List.map_toArray, List.map_cons, List.map_nil]); first | done | rfl | (simp only [List.length_drop, List.length_take]; rfl)) ?_
        with_reducible refine (frac_Frac_Mul.calls k t406 t407 t408 a2_0 a2_1 a2_2 t427 t428 t429 _ A37.out).mono ?_
        rintro e w66 ⟨rfl, hb⟩
        refine ⟨_, rfl, ?_⟩
        have n0_ := Aside0.mk (blk_below (g := gb397) (o := .cells #[.int .i64 a0_0, .int .i64 a0_1, .bool a0_2] 23 (0, 0)) (by (with_reducible repeat (first | refine blk_drewN ?_ _ | refine blk_drew ?_ | refine blk_alloc ?_ _)); exact BK397.out) hb)
        have n1_ := Aside0.mk (blk_below (g := gb398) (o := .cells #[.int .i64 a1_0, .int .i64 a1_1, .bool a1_2] 23 (0, 0)) (by (with_reducible repeat (first | refine blk_drewN ?_ _ | refine blk_drew ?_ | refine blk_alloc ?_ _)); exact BK398.out) hb)
        have n2_ := Aside0.mk (blk_below (g := gb399) (o := .cells #[.int .i64 a2_0, .int .i64 a2_1, .bool a2_2] 23 (0, 0)) (by (with_reducible repeat (first | refine blk_drewN ?_ _ | refine blk_drew ?_ | refine blk_alloc ?_ _)); exact BK399.out) hb)
        have n3_ := Aside0.mk (below_step (by repeat (first | (with_reducible first | exact HB.out | apply below_alloc | apply pw_below_drewN | apply below_drew1 | refine below_set ?_ GE397.out | refine below_set ?_ GE398.out | refine below_set ?_ GE399.out) | exact HB.out)) hb)
        clear BK397
        clear BK398
        clear BK399
        clear HB
        have BK397 := n0_
        have BK398 := n1_
        have BK399 := n2_
        have HB := n3_
        clear n0_ n1_ n2_ n3_
        (try clear hb)
        (try clear hb2)
        (try clear hk)
        (try clear hi)
        refine hK.out _ _ ⟨(blk_cell BK397.out 0).trans rfl, (blk_cell BK397.out 1).trans rfl, (blk_cell BK397.out 2).trans rfl, (blk_cell BK398.out 0).trans rfl, (blk_cell BK398.out 1).trans rfl, (blk_cell BK398.out 2).trans rfl, (blk_cell BK399.out 0).trans rfl, (blk_cell BK399.out 1).trans rfl, (blk_cell BK399.out 2).trans rfl⟩ (fun hHeld => ?_)
        clear hK K
        refine norm_ (a' := ?_) ?_ ?_
        rotate_left
        ·
         show Act.put _ (some 70) _ = _
         simp only [Act.put, List.setIfInBounds_toArray, List.set_cons_zero, List.set_cons_succ, i64_w, i32_w]
         rfl
        refine one_ (i := 38) (N := some 74) #[true, true, true, true, true, true, true, true, true, true, true, true, true, true, true, true, true, true, true, true, true, true, true, true, true, true, true, true, true, true, true, true, true, true, true, true, true, true, true, false, false, false, false, false, false, false, false, false, false, false, false] rfl rfl (one_of HT_.out (by kernel_rfl)) (by decide) (fun K hK => ?_)
        refine goes_ Try.func23 (by kernel_rfl) rfl #[.agg #[.int .i64 a1_0, .int .i64 a1_1, .bool a1_2], .agg #[.int .i64 a2_0, .int .i64 a2_1, .bool a2_2]] (by rfl) rfl rfl (by (try simp only [List.map_toArray, List.map_cons, List.map_nil]); first | done | rfl | (simp only [List.length_drop, List.length_take]; rfl)) ?_
        with_reducible refine (frac_Frac_Mul.calls k a1_0 a1_1 a1_2 a2_0 a2_1 a2_2 t430 t431 t432 _ A38.out).mono ?_
        rintro e w67 ⟨rfl, hb⟩
        refine ⟨_, rfl, ?_⟩
        have n0_ := Aside0.mk (blk_below (g := gb397) (o := .cells #[.int .i64 a0_0, .int .i64 a0_1, .bool a0_2] 23 (0, 0)) (by (with_reducible repeat (first | refine blk_drewN ?_ _ | refine blk_drew ?_ | refine blk_alloc ?_ _)); exact BK397.out) hb)
        have n1_ := Aside0.mk (blk_below (g := gb398) (o := .cells #[.int .i64 a1_0, .int .i64 a1_1, .bool a1_2] 23 (0, 0)) (by (with_reducible repeat (first | refine blk_drewN ?_ _ | refine blk_drew ?_ | refine blk_alloc ?_ _)); exact BK398.out) hb)
        have n2_ := Aside0.mk (blk_below (g := gb399) (o := .cells #[.int .i64 a2_0, .int .i64 a2_1, .bool a2_2] 23 (0, 0)) (by (with_reducible repeat (first | refine blk_drewN ?_ _ | refine blk_drew ?_ | refine blk_alloc ?_ _)); exact BK399.out) hb)
        have n3_ := Aside0.mk (below_step (by repeat (first | (with_reducible first | exact HB.out | apply below_alloc | apply pw_below_drewN | apply below_drew1 | refine below_set ?_ GE397.out | refine below_set ?_ GE398.out | refine below_set ?_ GE399.out) | exact HB.out)) hb)
        clear BK397
        clear BK398
        clear BK399
        clear HB
        have BK397 := n0_
        have BK398 := n1_
        have BK399 := n2_
        have HB := n3_
        clear n0_ n1_ n2_ n3_
        (try clear hb)
        (try clear hb2)
        (try clear hk)
        (try clear hi)
        refine hK.out _ _ ⟨(blk_cell BK397.out 0).trans rfl, (blk_cell BK397.out 1).trans rfl, (blk_cell BK397.out 2).trans rfl, (blk_cell BK398.out 0).trans rfl, (blk_cell BK398.out 1).trans rfl, (blk_cell BK398.out 2).trans rfl, (blk_cell BK399.out 0).trans rfl, (blk_cell BK399.out 1).trans rfl, (blk_cell BK399.out 2).trans rfl⟩ (fun hHeld => ?_)
        clear hK K
        refine norm_ (a' := ?_) ?_ ?_
        rotate_left
        ·
         show Act.put _ (some 74) _ = _
         simp only [Act.put, List.setIfInBounds_toArray, List.set_cons_zero, List.set_cons_succ, i64_w, i32_w]
         rfl
        refine one_ (i := 39) (N := some 75) #[true, true, true, true, true, true, true, true, true, true, true, true, true, true, true, true, true, true, true, true, true, true, true, true, true, true, true, true, true, true, true, true, true, true, true, true, true, true, true, true, false, false, false, false, false, false, false, false, false, false, false] rfl rfl (one_of HT_.out (by kernel_rfl)) (by decide) (fun K hK => ?_)
        refine goes_ Try.func23 (by kernel_rfl) rfl #[.agg #[.int .i64 a0_0, .int .i64 a0_1, .bool a0_2], .agg #[.int .i64 t430, .int .i64 t431, .bool t432]] (by rfl) rfl rfl (by (try simp only [List.map_toArray, List.map_cons, List.map_nil]); first | done | rfl | (simp only [List.length_drop, List.length_take]; rfl)) ?_
        with_reducible refine (frac_Frac_Mul.calls k a0_0 a0_1 a0_2 t430 t431 t432 t433 t434 t435 _ A39.out).mono ?_
        rintro e w68 ⟨rfl, hb⟩
        refine ⟨_, rfl, ?_⟩
        have n0_ := Aside0.mk (blk_below (g := gb397) (o := .cells #[.int .i64 a0_0, .int .i64 a0_1, .bool a0_2] 23 (0, 0)) (by (with_reducible repeat (first | refine blk_drewN ?_ _ | refine blk_drew ?_ | refine blk_alloc ?_ _)); exact BK397.out) hb)
        have n1_ := Aside0.mk (blk_below (g := gb398) (o := .cells #[.int .i64 a1_0, .int .i64 a1_1, .bool a1_2] 23 (0, 0)) (by (with_reducible repeat (first | refine blk_drewN ?_ _ | refine blk_drew ?_ | refine blk_alloc ?_ _)); exact BK398.out) hb)
        have n2_ := Aside0.mk (blk_below (g := gb399) (o := .cells #[.int .i64 a2_0, .int .i64 a2_1, .bool a2_2] 23 (0, 0)) (by (with_reducible repeat (first | refine blk_drewN ?_ _ | refine blk_drew ?_ | refine blk_alloc ?_ _)); exact BK399.out) hb)
        have n3_ := Aside0.mk (below_step (by repeat (first | (with_reducible first | exact HB.out | apply below_alloc | apply pw_below_drewN | apply below_drew1 | refine below_set ?_ GE397.out | refine below_set ?_ GE398.out | refine below_set ?_ GE399.out) | exact HB.out)) hb)
        clear BK397
        clear BK398
        clear BK399
        clear HB
        have BK397 := n0_
        have BK398 := n1_
        have BK399 := n2_
        have HB := n3_
        clear n0_ n1_ n2_ n3_
        (try clear hb)
        (try clear hb2)
        (try clear hk)
        (try clear hi)
        refine hK.out _ _ ⟨(blk_cell BK397.out 0).trans rfl, (blk_cell BK397.out 1).trans rfl, (blk_cell BK397.out 2).trans rfl, (blk_cell BK398.out 0).trans rfl, (blk_cell BK398.out 1).trans rfl, (blk_cell BK398.out 2).trans rfl, (blk_cell BK399.out 0).trans rfl, (blk_cell BK399.out 1).trans rfl, (blk_cell BK399.out 2).trans rfl⟩ (fun hHeld => ?_)
        clear hK K
        refine norm_ (a' := ?_) ?_ ?_
        rotate_left
        ·
         show Act.put _ (some 75) _ = _
         simp only [Act.put, List.setIfInBounds_toArray, List.set_cons_zero, List.set_cons_succ, i64_w, i32_w]
         rfl
        refine pure_ (i := 40) (N := some 76) (v := ?_) (a' := ?_) #[true, true, true, true, true, true, true, true, true, true, true, true, true, true, true, true, true, true, true, true, true, true, true, true, true, true, true, true, true, true, true, true, true, true, true, true, true, true, true, true, true, false, false, false, false, false, false, false, false, false, false] rfl rfl (any_of HT_.out (by kernel_rfl)) (fun _ _ _ h => h) (Or.inl ⟨by rfl, ?_⟩) ?_ ?_
        rotate_left
        ·
         intro w'
         go_simp
         with_reducible rfl
        rotate_left
        ·
         simp only [Act.put, List.setIfInBounds_toArray, List.set_cons_zero, List.set_cons_succ, i64_w, i32_w]
         rfl
        refine pure_ (i := 41) (N := some 77) (v := ?_) (a' := ?_) #[true, true, true, true, true, true, true, true, true, true, true, true, true, true, true, true, true, true, true, true, true, true, true, true, true, true, true, true, true, true, true, true, true, true, true, true, true, true, true, true, true, true, false, false, false, false, false, false, false, false, false] rfl rfl (any_of HT_.out (by kernel_rfl)) (fun _ _ _ h => h) (Or.inl ⟨by rfl, ?_⟩) ?_ ?_
        rotate_left
        ·
         intro w'
         go_simp
         with_reducible rfl
        rotate_left
        ·
         simp only [Act.put, List.setIfInBounds_toArray, List.set_cons_zero, List.set_cons_succ, i64_w, i32_w]
         rfl
        refine pure_ (i := 42) (N := some 78) (v := ?_) (a' := ?_) #[true, true, true, true, true, true, true, true, true, true, true, true, true, true, true, true, true, true, true, true, true, true, true, true, true, true, true, true, true, true, true, true, true, true, true, true, true, true, true, true, true, true, true, false, false, false, false, false, false, false, false] rfl rfl (any_of HT_.out (by kernel_rfl)) (fun _ _ _ h => h) (Or.inl ⟨by rfl, ?_⟩) ?_ ?_
        rotate_left
        ·
         intro w'
         go_simp
         with_reducible rfl
        rotate_left
        ·
         simp only [Act.put, List.setIfInBounds_toArray, List.set_cons_zero, List.set_cons_succ, i64_w, i32_w]
         rfl
        refine take_ (i := 43) (N := some 79) (v := ?_) (a' := ?_) #[true, true, true, true, true, true, true, true, true, true, true, true, true, true, true, true, true, true, true, true, true, true, true, true, true, true, true, true, true, true, true, true, true, true, true, true, true, true, true, true, true, true, true, true, false, false, false, false, false, false, false] rfl rfl (take_ofW HT_.out HW_.out (by kernel_rfl)) (fun _ _ _ h => h) (Or.inl ⟨by rfl, ?_⟩) hHeld ?_ ?_
        rotate_left
        ·
         rintro w' ⟨s0, s1, s2, s3, s4, s5, s6, s7, s8⟩
         go_simp
         with_reducible rfl
        rotate_left
        ·
         simp only [Act.put, List.setIfInBounds_toArray, List.set_cons_zero, List.set_cons_succ, i64_w, i32_w]
         rfl
        refine take_ (i := 44) (N := some 80) (v := ?_) (a' := ?_) #[true, true, true, true, true, true, true, true, true, true, true, true, true, true, true, true, true, true, true, true, true, true, true, true, true, true, true, true, true, true, true, true, true, true, true, true, true, true, true, true, true, true, true, true, true, false, false, false, false, false, false] rfl rfl (take_ofW HT_.out HW_.out (by kernel_rfl)) (fun _ _ _ h => h) (Or.inl ⟨by rfl, ?_⟩) hHeld ?_ ?_
        rotate_left
        ·
         rintro w' ⟨s0, s1, s2, s3, s4, s5, s6, s7, s8⟩
         go_simp
         with_reducible rfl
        rotate_left
        ·
         simp only [Act.put, List.setIfInBounds_toArray, List.set_cons_zero, List.set_cons_succ, i64_w, i32_w]
         rfl
        refine take_ (i := 46) (N := some 82) (v := ?_) (a' := ?_) #[true, true, true, true, true, true, true, true, true, true, true, true, true, true, true, true, true, true, true, true, true, true, true, true, true, true, true, true, true, true, true, true, true, true, true, true, true, true, true, true, true, true, true, true, true, false, true, false, false, false, false] rfl rfl (take_ofW HT_.out HW_.out (by kernel_rfl)) (fun _ _ _ h => h) (Or.inl ⟨by rfl, ?_⟩) hHeld ?_ ?_
        rotate_left
        ·
         rintro w' ⟨s0, s1, s2, s3, s4, s5, s6, s7, s8⟩
         go_simp
         with_reducible rfl
        rotate_left
        ·
         simp only [Act.put, List.setIfInBounds_toArray, List.set_cons_zero, List.set_cons_succ, i64_w, i32_w]
         rfl
        refine take_ (i := 48) (N := some 84) (v := ?_) (a' := ?_) #[true, true, true, true, true, true, true, true, true, true, true, true, true, true, true, true, true, true, true, true, true, true, true, true, true, true, true, true, true, true, true, true, true, true, true, true, true, true, true, true, true, true, true, true, true, false, true, false, true, false, false] rfl rfl (take_ofW HT_.out HW_.out (by kernel_rfl)) (fun _ _ _ h => h) (Or.inl ⟨by rfl, ?_⟩) hHeld ?_ ?_
        rotate_left
        ·
         rintro w' ⟨s0, s1, s2, s3, s4, s5, s6, s7, s8⟩
         go_simp
         with_reducible rfl
        rotate_left
        ·
         simp only [Act.put, List.setIfInBounds_toArray, List.set_cons_zero, List.set_cons_succ, i64_w, i32_w]
         rfl
        refine one_ (i := 45) (N := some 81) #[true, true, true, true, true, true, true, true, true, true, true, true, true, true, true, true, true, true, true, true, true, true, true, true, true, true, true, true, true, true, true, true, true, true, true, true, true, true, true, true, true, true, true, true, true, true, true, false, true, false, false] rfl rfl (one_of HT_.out (by kernel_rfl)) (by decide) (fun K hK => ?_)
        refine goes_ Try.func24 (by kernel_rfl) rfl #[.agg #[.int .i64 a0_0, .int .i64 a0_1, .bool a0_2], .agg #[.int .i64 a1_0, .int .i64 a1_1, .bool a1_2]] (by rfl) rfl rfl (by (try simp only [List.map_toArray, List.map_cons, List.map_nil]); first | done | rfl | (simp only [List.length_drop, List.length_take]; rfl)) ?_
        with_reducible refine (frac_Frac_Add.calls k a0_0 a0_1 a0_2 a1_0 a1_1 a1_2 t400 t401 t402 _ A54.out).mono ?_
        rintro e w69 ⟨rfl, hb⟩
        refine ⟨_, rfl, ?_⟩
        have n0_ := Aside0.mk (blk_below (g := gb397) (o := .cells #[.int .i64 a0_0, .int .i64 a0_1, .bool a0_2] 23 (0, 0)) (by (with_reducible repeat (first | refine blk_drewN ?_ _ | refine blk_drew ?_ | refine blk_alloc ?_ _)); exact BK397.out) hb)
        have n1_ := Aside0.mk (blk_below (g := gb398) (o := .cells #[.int .i64 a1_0, .int .i64 a1_1, .bool a1_2] 23 (0, 0)) (by (with_reducible repeat (first | refine blk_drewN ?_ _ | refine blk_drew ?_ | refine blk_alloc ?_ _)); exact BK398.out) hb)
        have n2_ := Aside0.mk (blk_below (g := gb399) (o := .cells #[.int .i64 a2_0, .int .i64 a2_1, .bool a2_2] 23 (0, 0)) (by (with_reducible repeat (first | refine blk_drewN ?_ _ | refine blk_drew ?_ | refine blk_alloc ?_ _)); exact BK399.out) hb)
        have n3_ := Aside0.mk (below_step (by repeat (first | (with_reducible first | exact HB.out | apply below_alloc | apply pw_below_drewN | apply below_drew1 | refine below_set ?_ GE397.out | refine below_set ?_ GE398.out | refine below_set ?_ GE399.out) | exact HB.out)) hb)
        clear BK397
        clear BK398
        clear BK399
        clear HB
        have BK397 := n0_
        have BK398 := n1_
        have BK399 := n2_
        have HB := n3_
        clear n0_ n1_ n2_ n3_
        (try clear hb)
        (try clear hb2)
        (try clear hk)
        (try clear hi)
        refine hK.out _ _ ⟨(blk_cell BK397.out 0).trans rfl, (blk_cell BK397.out 1).trans rfl, (blk_cell BK397.out 2).trans rfl, (blk_cell BK398.out 0).trans rfl, (blk_cell BK398.out 1).trans rfl, (blk_cell BK398.out 2).trans rfl, (blk_cell BK399.out 0).trans rfl, (blk_cell BK399.out 1).trans rfl, (blk_cell BK399.out 2).trans rfl⟩ (fun hHeld => ?_)
        clear hK K
        refine norm_ (a' := ?_) ?_ ?_
        rotate_left
        ·
         show Act.put _ (some 81) _ = _
         simp only [Act.put, List.setIfInBounds_toArray, List.set_cons_zero, List.set_cons_succ, i64_w, i32_w]
         rfl
        refine one_ (i := 47) (N := some 83) #[true, true, true, true, true, true, true, true, true, true, true, true, true, true, true, true, true, true, true, true, true, true, true, true, true, true, true, true, true, true, true, true, true, true, true, true, true, true, true, true, true, true, true, true, true, true, true, true, true, false, false] rfl rfl (one_of HT_.out (by kernel_rfl)) (by decide) (fun K hK => ?_)
        refine goes_ Try.func25 (by kernel_rfl) rfl #[.agg #[.int .i64 t400, .int .i64 t401, .bool t402], .agg #[.int .i64 a1_0, .int .i64 a1_1, .bool a1_2]] (by rfl) rfl rfl (by (try simp only [List.map_toArray, List.map_cons, List.map_nil]); first | done | rfl | (simp only [List.length_drop, List.length_take]; rfl)) ?_
        with_reducible refine (frac_Frac_Sub.calls k t400 t401 t402 a1_0 a1_1 a1_2 t439 t440 t441 _ A55.out).mono ?_
        rintro e w70 ⟨rfl, hb⟩
        refine ⟨_, rfl, ?_⟩
        have n0_ := Aside0.mk (blk_below (g := gb397) (o := .cells #[.int .i64 a0_0, .int .i64 a0_1, .bool a0_2] 23 (0, 0)) (by (with_reducible repeat (first | refine blk_drewN ?_ _ | refine blk_drew ?_ | refine blk_alloc ?_ _)); exact BK397.out) hb)
        have n1_ := Aside0.mk (blk_below (g := gb398) (o := .cells #[.int .i64 a1_0, .int .i64 a1_1, .bool a1_2] 23 (0, 0)) (by (with_reducible repeat (first | refine blk_drewN ?_ _ | refine blk_drew ?_ | refine blk_alloc ?_ _)); exact BK398.out) hb)
        have n2_ := Aside0.mk (blk_below (g := gb399) (o := .cells #[.int .i64 a2_0, .int .i64 a2_1, .bool a2_2] 23 (0, 0)) (by (with_reducible repeat (first | refine blk_drewN ?_ _ | refine blk_drew ?_ | refine blk_alloc ?_ _)); exact BK399.out) hb)
        have n3_ := Aside0.mk (below_step (by repeat (first | (with_reducible first | exact HB.out | apply below_alloc | apply pw_below_drewN | apply below_drew1 | refine below_set ?_ GE397.out | refine below_set ?_ GE398.out | refine below_set ?_ GE399.out) | exact HB.out)) hb)
        clear BK397
        clear BK398
        clear BK399
        clear HB
        have BK397 := n0_
        have BK398 := n1_
        have BK399 := n2_
        have HB := n3_
        clear n0_ n1_ n2_ n3_
        (try clear hb)
        (try clear hb2)
        (try clear hk)
        (try clear hi)
        refine hK.out _ _ ⟨(blk_cell BK397.out 0).trans rfl, (blk_cell BK397.out 1).trans rfl, (blk_cell BK397.out 2).trans rfl, (blk_cell BK398.out 0).trans rfl, (blk_cell BK398.out 1).trans rfl, (blk_cell BK398.out 2).trans rfl, (blk_cell BK399.out 0).trans rfl, (blk_cell BK399.out 1).trans rfl, (blk_cell BK399.out 2).trans rfl⟩ (fun hHeld => ?_)
        clear hK K
        refine norm_ (a' := ?_) ?_ ?_
        rotate_left
        ·
         show Act.put _ (some 83) _ = _
         simp only [Act.put, List.setIfInBounds_toArray, List.set_cons_zero, List.set_cons_succ, i64_w, i32_w]
         rfl
        refine pure_ (i := 49) (N := some 85) (v := ?_) (a' := ?_) #[true, true, true, true, true, true, true, true, true, true, true, true, true, true, true, true, true, true, true, true, true, true, true, true, true, true, true, true, true, true, true, true, true, true, true, true, true, true, true, true, true, true, true, true, true, true, true, true, true, true, false] rfl rfl (any_of HT_.out (by kernel_rfl)) (fun _ _ _ h => h) (Or.inl ⟨by rfl, ?_⟩) ?_ ?_
        rotate_left
        ·
         intro w'
         go_simp
         with_reducible rfl
        rotate_left
        ·
         simp only [Act.put, List.setIfInBounds_toArray, List.set_cons_zero, List.set_cons_succ, i64_w, i32_w]
         rfl
        refine pure_ (i := 50) (N := some 86) (v := ?_) (a' := ?_) #[true, true, true, true, true, true, true, true, true, true, true, true, true, true, true, true, true, true, true, true, true, true, true, true, true, true, true, true, true, true, true, true, true, true, true, true, true, true, true, true, true, true, true, true, true, true, true, true, true, true, true] rfl rfl (any_of HT_.out (by kernel_rfl)) (fun _ _ _ h => h) (Or.inl ⟨by rfl, ?_⟩) ?_ ?_
        rotate_left
        ·
         intro w'
         go_simp
         with_reducible rfl
        rotate_left
        ·
         simp only [Act.put, List.setIfInBounds_toArray, List.set_cons_zero, List.set_cons_succ, i64_w, i32_w]
         rfl
        refine done_ (done_of HT_.out (by kernel_rfl)) ?_
        try go_wp2
        go_meet
        case rel => exact ⟨_, ((!(t439 == a0_0) || (!(t440 == a0_1) || (!(t441 == a0_2))))), (by first | rfl | (simp; done) | (simp [*]; done)), H', ⟨by first | omega | exact Nat.le_refl _⟩, ⟨by (with_reducible repeat (first | refine blk_drewN ?_ _ | refine blk_drew ?_ | refine blk_alloc ?_ _)); exact BK397.out⟩, ⟨by (with_reducible repeat (first | refine blk_drewN ?_ _ | refine blk_drew ?_ | refine blk_alloc ?_ _)); exact BK398.out⟩, ⟨by (with_reducible repeat (first | refine blk_drewN ?_ _ | refine blk_drew ?_ | refine blk_alloc ?_ _)); exact BK399.out⟩, ⟨by repeat (first | (with_reducible first | exact HB.out | apply below_alloc | apply pw_below_drewN | apply below_drew1 | refine below_set ?_ GE397.out | refine below_set ?_ GE398.out | refine below_set ?_ GE399.out) | exact HB.out)⟩⟩
   case rest =>
    clear HC4
    try clear c2
    try clear p2
    try clear c23
    try clear c24
    try clear c25
    obtain ⟨kq, x86_3, rfl, HA, HJ3, BK397, BK398, BK399, HB⟩ := hcut
    cases kq with
    | zero => exact absurd HA.out (by simp [coupletlaw04_FracRules.j0])
    | succ kj3 =>
     have H := HA.out
     clear HA
     simp only [coupletlaw04_FracRules.j0] at H
     by_cases c71 : x86_3 = true
     ·
      subst c71
      have H1 : (some false) = some r := by rw [if_pos rfl] at H; exact H
      clear H
      have H := H1
      clear H1
      obtain rfl := Option.some.inj H
      exact absurd hr (by decide)
     ·
      replace c71 := Bool.eq_false_iff.mpr c71
      subst c71
      have H1 : (if a1_0 = 0 then ((frac_Frac_Add.f kj3 a1_0 a1_1 a1_2 a2_0 a2_1 a2_2).bind fun bt442 => ((frac_Frac_Mul.f kj3 a0_0 a0_1 a0_2 bt442.1 bt442.2.1 bt442.2.2).bind fun bt445 => ((frac_Frac_Mul.f kj3 a0_0 a0_1 a0_2 a1_0 a1_1 a1_2).bind fun bt448 => ((frac_Frac_Mul.f kj3 a0_0 a0_1 a0_2 a2_0 a2_1 a2_2).bind fun bt451 => ((frac_Frac_Add.f kj3 bt448.1 bt448.2.1 bt448.2.2 bt451.1 bt451.2.1 bt451.2.2).bind fun bt454 => (if (bt445.1 == bt454.1 && (bt445.2.1 == bt454.2.1 && (bt445.2.2 == bt454.2.2))) = true then ((frac_Frac_Neg.f kj3 a0_0 a0_1 a0_2).bind fun bt457 => ((frac_Frac_Neg.f kj3 bt457.1 bt457.2.1 bt457.2.2).bind fun bt460 => (if (bt460.1 == a0_0 && (bt460.2.1 == a0_1 && (bt460.2.2 == a0_2))) = true then ((coupletlaw04_awake.f kj3).bind fun t463 => (some t463)) else (some false)))) else (some false))))))) else ((frac_Frac_Mul.f kj3 a0_0 a0_1 a0_2 a1_0 a1_1 a1_2).bind fun bt464 => ((frac_Frac_Div.f kj3 bt464.1 bt464.2.1 bt464.2.2 a1_0 a1_1 a1_2).bind fun bt467 => (if (bt467.1 == a0_0 && (bt467.2.1 == a0_1 && (bt467.2.2 == a0_2))) = true then ((frac_Frac_Add.f kj3 a1_0 a1_1 a1_2 a2_0 a2_1 a2_2).bind fun bt470 => ((frac_Frac_Mul.f kj3 a0_0 a0_1 a0_2 bt470.1 bt470.2.1 bt470.2.2).bind fun bt473 => ((frac_Frac_Mul.f kj3 a0_0 a0_1 a0_2 a1_0 a1_1 a1_2).bind fun bt476 => ((frac_Frac_Mul.f kj3 a0_0 a0_1 a0_2 a2_0 a2_1 a2_2).bind fun bt479 => ((frac_Frac_Add.f kj3 bt476.1 bt476.2.1 bt476.2.2 bt479.1 bt479.2.1 bt479.2.2).bind fun bt482 => (if (bt473.1 == bt482.1 && (bt473.2.1 == bt482.2.1 && (bt473.2.2 == bt482.2.2))) = true then ((frac_Frac_Neg.f kj3 a0_0 a0_1 a0_2).bind fun bt485 => ((frac_Frac_Neg.f kj3 bt485.1 bt485.2.1 bt485.2.2).bind fun bt488 => (if (bt488.1 == a0_0 && (bt488.2.1 == a0_1 && (bt488.2.2 == a0_2))) = true then ((coupletlaw04_awake.f kj3).bind fun t491 => (some t491)) else (some false)))) else (some false))))))) else (some false))))) = some r := by rw [if_neg (show ¬ (false = true) by decide)] at H; exact H
      clear H
      have H := H1
      clear H1
      by_cases c72 : a1_0 = 0
      ·
       rw [if_pos c72] at H
       have c72b0 : (a1_0 == 0) = true := beq_iff_eq.mpr c72
       have c72b1 : (a1_0 != 0) = false := bne_eq_false_iff_eq.mpr c72
       clear c72
       replace H := Option.bind_eq_some_iff.mp H
       obtain ⟨⟨t442, t443, t444⟩, A730, H⟩ := H
       replace H : ((frac_Frac_Mul.f kj3 a0_0 a0_1 a0_2 t442 t443 t444).bind fun bt445 => ((frac_Frac_Mul.f kj3 a0_0 a0_1 a0_2 a1_0 a1_1 a1_2).bind fun bt448 => ((frac_Frac_Mul.f kj3 a0_0 a0_1 a0_2 a2_0 a2_1 a2_2).bind fun bt451 => ((frac_Frac_Add.f kj3 bt448.1 bt448.2.1 bt448.2.2 bt451.1 bt451.2.1 bt451.2.2).bind fun bt454 => (if (bt445.1 == bt454.1 && (bt445.2.1 == bt454.2.1 && (bt445.2.2 == bt454.2.2))) = true then ((frac_Frac_Neg.f kj3 a0_0 a0_1 a0_2).bind fun bt457 => ((frac_Frac_Neg.f kj3 bt457.1 bt457.2.1 bt457.2.2).bind fun bt460 => (if (bt460.1 == a0_0 && (bt460.2.1 == a0_1 && (bt460.2.2 == a0_2))) = true then ((coupletlaw04_awake.f kj3).bind fun t463 => (some t463)) else (some false)))) else (some false)))))) = some r := H
       have A73 := Aside0.mk A730
       clear A730
       replace H := Option.bind_eq_some_iff.mp H
       obtain ⟨⟨t445, t446, t447⟩, A740, H⟩ := H
       replace H : ((frac_Frac_Mul.f kj3 a0_0 a0_1 a0_2 a1_0 a1_1 a1_2).bind fun bt448 => ((frac_Frac_Mul.f kj3 a0_0 a0_1 a0_2 a2_0 a2_1 a2_2).bind fun bt451 => ((frac_Frac_Add.f kj3 bt448.1 bt448.2.1 bt448.2.2 bt451.1 bt451.2.1 bt451.2.2).bind fun bt454 => (if (t445 == bt454.1 && (t446 == bt454.2.1 && (t447 == bt454.2.2))) = true then ((frac_Frac_Neg.f kj3 a0_0 a0_1 a0_2).bind fun bt457 => ((frac_Frac_Neg.f kj3 bt457.1 bt457.2.1 bt457.2.2).bind fun bt460 => (if (bt460.1 == a0_0 && (bt460.2.1 == a0_1 && (bt460.2.2 == a0_2))) = true then ((coupletlaw04_awake.f kj3).bind fun t463 => (some t463)) else (some false)))) else (some false))))) = some r := H
       have A74 := Aside0.mk A740
       clear A740
       replace H := Option.bind_eq_some_iff.mp H
       obtain ⟨⟨t448, t449, t450⟩, A750, H⟩ := H
       replace H : ((frac_Frac_Mul.f kj3 a0_0 a0_1 a0_2 a2_0 a2_1 a2_2).bind fun bt451 => ((frac_Frac_Add.f kj3 t448 t449 t450 bt451.1 bt451.2.1 bt451.2.2).bind fun bt454 => (if (t445 == bt454.1 && (t446 == bt454.2.1 && (t447 == bt454.2.2))) = true then ((frac_Frac_Neg.f kj3 a0_0 a0_1 a0_2).bind fun bt457 => ((frac_Frac_Neg.f kj3 bt457.1 bt457.2.1 bt457.2.2).bind fun bt460 => (if (bt460.1 == a0_0 && (bt460.2.1 == a0_1 && (bt460.2.2 == a0_2))) = true then ((coupletlaw04_awake.f kj3).bind fun t463 => (some t463)) else (some false)))) else (some false)))) = some r := H
       have A75 := Aside0.mk A750
       clear A750
       replace H := Option.bind_eq_some_iff.mp H
       obtain ⟨⟨t451, t452, t453⟩, A760, H⟩ := H
       replace H : ((frac_Frac_Add.f kj3 t448 t449 t450 t451 t452 t453).bind fun bt454 => (if (t445 == bt454.1 && (t446 == bt454.2.1 && (t447 == bt454.2.2))) = true then ((frac_Frac_Neg.f kj3 a0_0 a0_1 a0_2).bind fun bt457 => ((frac_Frac_Neg.f kj3 bt457.1 bt457.2.1 bt457.2.2).bind fun bt460 => (if (bt460.1 == a0_0 && (bt460.2.1 == a0_1 && (bt460.2.2 == a0_2))) = true then ((coupletlaw04_awake.f kj3).bind fun t463 => (some t463)) else (some false)))) else (some false))) = some r := H
       have A76 := Aside0.mk A760
       clear A760
       replace H := Option.bind_eq_some_iff.mp H
       obtain ⟨⟨t454, t455, t456⟩, A770, H⟩ := H
       replace H : (if (t445 == t454 && (t446 == t455 && (t447 == t456))) = true then ((frac_Frac_Neg.f kj3 a0_0 a0_1 a0_2).bind fun bt457 => ((frac_Frac_Neg.f kj3 bt457.1 bt457.2.1 bt457.2.2).bind fun bt460 => (if (bt460.1 == a0_0 && (bt460.2.1 == a0_1 && (bt460.2.2 == a0_2))) = true then ((coupletlaw04_awake.f kj3).bind fun t463 => (some t463)) else (some false)))) else (some false)) = some r := H
       have A77 := Aside0.mk A770
       clear A770
       by_cases c78 : (t445 == t454 && (t446 == t455 && (t447 == t456))) = true
       ·
        rw [if_pos c78] at H
        have c78b0 : (t445 == t454 && (t446 == t455 && (t447 == t456))) = true := c78
        (try (have c78b1 : decide (t445 = t454 && (t446 == t455 && (t447 == t456))) = true := by simpa using c78))
        (try (have c78b2 : (t445 == t454 && (t446 == t455 && (t447 == t456))) = true := by simpa using c78))
        clear c78
        have ce_ : ((t445 == t454 && (t446 == t455 && (t447 == t456)))) = true := c78b0
        simp only [Bool.and_eq_true, beq_iff_eq] at ce_
        obtain ⟨rfl, rfl, rfl⟩ := ce_
        replace H := Option.bind_eq_some_iff.mp H
        obtain ⟨⟨t457, t458, t459⟩, A790, H⟩ := H
        replace H : ((frac_Frac_Neg.f kj3 t457 t458 t459).bind fun bt460 => (if (bt460.1 == a0_0 && (bt460.2.1 == a0_1 && (bt460.2.2 == a0_2))) = true then ((coupletlaw04_awake.f kj3).bind fun t463 => (some t463)) else (some false))) = some r := H
        have A79 := Aside0.mk A790
        clear A790
        replace H := Option.bind_eq_some_iff.mp H
        obtain ⟨⟨t460, t461, t462⟩, A800, H⟩ := H
        replace H : (if (t460 == a0_0 && (t461 == a0_1 && (t462 == a0_2))) = true then ((coupletlaw04_awake.f kj3).bind fun t463 => (some t463)) else (some false)) = some r := H
        have A80 := Aside0.mk A800
        clear A800
        by_cases c81 : (t460 == a0_0 && (t461 == a0_1 && (t462 == a0_2))) = true
        ·
         rw [if_pos c81] at H
         have c81b0 : (t460 == a0_0 && (t461 == a0_1 && (t462 == a0_2))) = true := c81
         (try (have c81b1 : decide (t460 = a0_0 && (t461 == a0_1 && (t462 == a0_2))) = true := by simpa using c81))
         (try (have c81b2 : (t460 == a0_0 && (t461 == a0_1 && (t462 == a0_2))) = true := by simpa using c81))
         clear c81
         replace H := Option.bind_eq_some_iff.mp H
         obtain ⟨t463, A820, H⟩ := H
         replace H : (some t463) = some r := H
         have A82 := Aside0.mk A820
         clear A820
         obtain rfl := Option.some.inj H
         try go_wp2
         have n0_ := Aside0.mk (blk_drew BK397.out)
         have n1_ := Aside0.mk (blk_drew BK398.out)
         have n2_ := Aside0.mk (blk_drew BK399.out)
         have n3_ := Aside0.mk (below_drew1 HB.out)
         clear BK397
         clear BK398
         clear BK399
         clear HB
         have BK397 := n0_
         have BK398 := n1_
         have BK399 := n2_
         have HB := n3_
         clear n0_ n1_ n2_ n3_
         refine start_ (n := 38) (S := fun w' => w'.cell? ⟨gb398, 0, none⟩ = some (.int .i64 a1_0) ∧ w'.cell? ⟨gb398, 1, none⟩ = some (.int .i64 a1_1) ∧ w'.cell? ⟨gb398, 2, none⟩ = some (.bool a1_2) ∧ w'.cell? ⟨gb397, 0, none⟩ = some (.int .i64 a0_0) ∧ w'.cell? ⟨gb397, 1, none⟩ = some (.int .i64 a0_1) ∧ w'.cell? ⟨gb397, 2, none⟩ = some (.bool a0_2) ∧ w'.cell? ⟨gb399, 0, none⟩ = some (.int .i64 a2_0) ∧ w'.cell? ⟨gb399, 1, none⟩ = some (.int .i64 a2_1) ∧ w'.cell? ⟨gb399, 2, none⟩ = some (.bool a2_2)) (ds := []) #[false, false, false, false, false, false, false, false, false, false, false, false, false, false, false, false, false, false, false, false, false, false, false, false, false, false, false, false, false, false, false, false, false, false, false, false, false, false] (by kernel_rfl) rfl rfl ⟨(blk_cell BK398.out 0).trans rfl, (blk_cell BK398.out 1).trans rfl, (blk_cell BK398.out 2).trans rfl, (blk_cell BK397.out 0).trans rfl, (blk_cell BK397.out 1).trans rfl, (blk_cell BK397.out 2).trans rfl, (blk_cell BK399.out 0).trans rfl, (blk_cell BK399.out 1).trans rfl, (blk_cell BK399.out 2).trans rfl⟩ (fun hHeld => ?_); refine with_tabW coupletlaw04_FracRules.tab9 coupletlaw04_FracRules.bits9 (fun HT_ HW_ => ?_)
         generalize wc.drew = w83 at BK397 BK398 BK399 HB hHeld ⊢
         refine pure_ (i := 0) (N := some 87) (v := ?_) (a' := ?_) #[true, false, false, false, false, false, false, false, false, false, false, false, false, false, false, false, false, false, false, false, false, false, false, false, false, false, false, false, false, false, false, false, false, false, false, false, false, false] rfl rfl (any_of HT_.out (by kernel_rfl)) (fun _ _ _ h => h) (Or.inl ⟨by rfl, ?_⟩) ?_ ?_
         rotate_left
         ·
          intro w'
          go_simp
          with_reducible rfl
         rotate_left
         ·
          simp only [Act.put, List.setIfInBounds_toArray, List.set_cons_zero, List.set_cons_succ, i64_w, i32_w]
          rfl
         refine take_ (i := 1) (N := some 88) (v := ?_) (a' := ?_) #[true, true, false, false, false, false, false, false, false, false, false, false, false, false, false, false, false, false, false, false, false, false, false, false, false, false, false, false, false, false, false, false, false, false, false, false, false, false] rfl rfl (take_ofW HT_.out HW_.out (by kernel_rfl)) (fun _ _ _ h => h) (Or.inl ⟨by rfl, ?_⟩) hHeld ?_ ?_
         rotate_left
         ·
          rintro w' ⟨s0, s1, s2, s3, s4, s5, s6, s7, s8⟩
          go_simp
          with_reducible rfl
         rotate_left
         ·
          simp only [Act.put, List.setIfInBounds_toArray, List.set_cons_zero, List.set_cons_succ, i64_w, i32_w]
          rfl
         refine pure_ (i := 2) (N := some 89) (v := ?_) (a' := ?_) #[true, true, true, false, false, false, false, false, false, false, false, false, false, false, false, false, false, false, false, false, false, false, false, false, false, false, false, false, false, false, false, false, false, false, false, false, false, false] rfl rfl (any_of HT_.out (by kernel_rfl)) (fun _ _ _ h => h) (Or.inl ⟨by rfl, ?_⟩) ?_ ?_
         rotate_left
         ·
          intro w'
          go_simp
          with_reducible rfl
         rotate_left
         ·
          simp only [Act.put, List.setIfInBounds_toArray, List.set_cons_zero, List.set_cons_succ, i64_w, i32_w]
          rfl
         refine pure_ (i := 3) (N := some 90) (v := ?_) (a' := ?_) #[true, true, true, true, false, false, false, false, false, false, false, false, false, false, false, false, false, false, false, false, false, false, false, false, false, false, false, false, false, false, false, false, false, false, false, false, false, false] rfl rfl (any_of HT_.out (by kernel_rfl)) (fun _ _ _ h => h) (Or.inl ⟨by rfl, ?_⟩) ?_ ?_
         rotate_left
         ·
          intro w'
          go_simp
          with_reducible rfl
         rotate_left
         ·
          simp only [Act.put, List.setIfInBounds_toArray, List.set_cons_zero, List.set_cons_succ, i64_w, i32_w]
          rfl
         refine pure_ (i := 4) (N := some 91) (v := undef) (a' := ?_) #[true, true, true, true, true, false, false, false, false, false, false, false, false, false, false, false, false, false, false, false, false, false, false, false, false, false, false, false, false, false, false, false, false, false, false, false, false, false] rfl rfl (any_of HT_.out (by kernel_rfl)) (fun _ _ _ h => h) (Or.inr ⟨by rfl, rfl⟩) ?_ ?_
         rotate_left
         ·
          simp only [Act.put, List.setIfInBounds_toArray, List.set_cons_zero, List.set_cons_succ, i64_w, i32_w]
          rfl
         refine pure_ (i := 5) (N := some 92) (v := undef) (a' := ?_) #[true, true, true, true, true, true, false, false, false, false, false, false, false, false, false, false, false, false, false, false, false, false, false, false, false, false, false, false, false, false, false, false, false, false, false, false, false, false] rfl rfl (any_of HT_.out (by kernel_rfl)) (fun _ _ _ h => h) (Or.inr ⟨by rfl, rfl⟩) ?_ ?_
         rotate_left
         ·
          simp only [Act.put, List.setIfInBounds_toArray, List.set_cons_zero, List.set_cons_succ, i64_w, i32_w]
          rfl
         refine pure_ (i := 6) (N := some 93) (v := undef) (a' := ?_) #[true, true, true, true, true, true, true, false, false, false, false, false, false, false, false, false, false, false, false, false, false, false, false, false, false, false, false, false, false, false, false, false, false, false, false, false, false, false] rfl rfl (any_of HT_.out (by kernel_rfl)) (fun _ _ _ h => h) (Or.inr ⟨by rfl, rfl⟩) ?_ ?_
         rotate_left
         ·
          simp only [Act.put, List.setIfInBounds_toArray, List.set_cons_zero, List.set_cons_succ, i64_w, i32_w]
          rfl
         refine pure_ (i := 7) (N := some 94) (v := undef) (a' := ?_) #[true, true, true, true, true, true, true, true, false, false, false, false, false, false, false, false, false, false, false, false, false, false, false, false, false, false, false, false, false, false, false, false, false, false, false, false, false, false] rfl rfl (any_of HT_.out (by kernel_rfl)) (fun _ _ _ h => h) (Or.inr ⟨by rfl, rfl⟩) ?_ ?_
         rotate_left
         ·
          simp only [Act.put, List.setIfInBounds_toArray, List.set_cons_zero, List.set_cons_succ, i64_w, i32_w]
          rfl
         refine pure_ (i := 8) (N := some 95) (v := undef) (a' := ?_) #[true, true, true, true, true, true, true, true, true, false, false, false, false, false, false, false, false, false, false, false, false, false, false, false, false, false, false, false, false, false, false, false, false, false, false, false, false, false] rfl rfl (any_of HT_.out (by kernel_rfl)) (fun _ _ _ h => h) (Or.inr ⟨by rfl, rfl⟩) ?_ ?_
         rotate_left
         ·
          simp only [Act.put, List.setIfInBounds_toArray, List.set_cons_zero, List.set_cons_succ, i64_w, i32_w]
          rfl
         refine pure_ (i := 9) (N := some 96) (v := undef) (a' := ?_) #[true, true, true, true, true, true, true, true, true, true, false, false, false, false, false, false, false, false, false, false, false, false, false, false, false, false, false, false, false, false, false, false, false, false, false, false, false, false] rfl rfl (any_of HT_.out (by kernel_rfl)) (fun _ _ _ h => h) (Or.inr ⟨by rfl, rfl⟩) ?_ ?_
         rotate_left
         ·
          simp only [Act.put, List.setIfInBounds_toArray, List.set_cons_zero, List.set_cons_succ, i64_w, i32_w]
          rfl
         refine pure_ (i := 10) (N := some 97) (v := undef) (a' := ?_) #[true, true, true, true, true, true, true, true, true, true, true, false, false, false, false, false, false, false, false, false, false, false, false, false, false, false, false, false, false, false, false, false, false, false, false, false, false, false] rfl rfl (any_of HT_.out (by kernel_rfl)) (fun _ _ _ h => h) (Or.inr ⟨by rfl, rfl⟩) ?_ ?_
         rotate_left
         ·
          simp only [Act.put, List.setIfInBounds_toArray, List.set_cons_zero, List.set_cons_succ, i64_w, i32_w]
          rfl
         refine pure_ (i := 11) (N := some 98) (v := ?_) (a' := ?_) #[true, true, true, true, true, true, true, true, true, true, true, true, false, false, false, false, false, false, false, false, false, false, false, false, false, false, false, false, false, false, false, false, false, false, false, false, false, false] rfl rfl (any_of HT_.out (by kernel_rfl)) (fun _ _ _ h => h) (Or.inl ⟨by rfl, ?_⟩) ?_ ?_
         rotate_left
         ·
          intro w'
          go_simp
          with_reducible rfl
         rotate_left
         ·
          simp only [Act.put, List.setIfInBounds_toArray, List.set_cons_zero, List.set_cons_succ, i64_w, i32_w]
          rfl
         refine pure_ (i := 12) (N := some 99) (v := ?_) (a' := ?_) #[true, true, true, true, true, true, true, true, true, true, true, true, true, false, false, false, false, false, false, false, false, false, false, false, false, false, false, false, false, false, false, false, false, false, false, false, false, false] rfl rfl (any_of HT_.out (by kernel_rfl)) (fun _ _ _ h => h) (Or.inl ⟨by rfl, ?_⟩) ?_ ?_
         rotate_left
         ·
          intro w'
          go_simp
          with_reducible rfl
         rotate_left
         ·
          simp only [Act.put, List.setIfInBounds_toArray, List.set_cons_zero, List.set_cons_succ, i64_w, i32_w]
          rfl
         refine take_ (i := 13) (N := some 100) (v := ?_) (a' := ?_) #[true, true, true, true, true, true, true, true, true, true, true, true, true, true, false, false, false, false, false, false, false, false, false, false, false, false, false, false, false, false, false, false, false, false, false, false, false, false] rfl rfl (take_ofW HT_.out HW_.out (by kernel_rfl)) (fun _ _ _ h => h) (Or.inl ⟨by rfl, ?_⟩) hHeld ?_ ?_
         rotate_left
         ·
          rintro w' ⟨s0, s1, s2, s3, s4, s5, s6, s7, s8⟩
          go_simp
          with_reducible rfl
         rotate_left
         ·
          simp only [Act.put, List.setIfInBounds_toArray, List.set_cons_zero, List.set_cons_succ, i64_w, i32_w]
          rfl
         refine take_ (i := 14) (N := some 101) (v := ?_) (a' := ?_) #[true, true, true, true, true, true, true, true, true, true, true, true, true, true, true, false, false, false, false, false, false, false, false, false, false, false, false, false, false, false, false, false, false, false, false, false, false, false] rfl rfl (take_ofW HT_.out HW_.out (by kernel_rfl)) (fun _ _ _ h => h) (Or.inl ⟨by rfl, ?_⟩) hHeld ?_ ?_
         rotate_left
         ·
          rintro w' ⟨s0, s1, s2, s3, s4, s5, s6, s7, s8⟩
          go_simp
          with_reducible rfl
         rotate_left
         ·
          simp only [Act.put, List.setIfInBounds_toArray, List.set_cons_zero, List.set_cons_succ, i64_w, i32_w]
          rfl
         refine take_ (i := 15) (N := some 102) (v := ?_) (a' := ?_) #[true, true, true, true, true, true, true, true, true, true, true, true, true, true, true, true, false, false, false, false, false, false, false, false, false, false, false, false, false, false, false, false, false, false, false, false, false, false] rfl rfl (take_ofW HT_.out HW_.out (by kernel_rfl)) (fun _ _ _ h => h) (Or.inl ⟨by rfl, ?_⟩) hHeld ?_ ?_
         rotate_left
         ·
          rintro w' ⟨s0, s1, s2, s3, s4, s5, s6, s7, s8⟩
          go_simp
          with_reducible rfl
         rotate_left
         ·
          simp only [Act.put, List.setIfInBounds_toArray, List.set_cons_zero, List.set_cons_succ, i64_w, i32_w]
          rfl
         refine take_ (i := 18) (N := some 105) (v := ?_) (a' := ?_) #[true, true, true, true, true, true, true, true, true, true, true, true, true, true, true, true, false, false, true, false, false, false, false, false, false, false, false, false, false, false, false, false, false, false, false, false, false, false] rfl rfl (take_ofW HT_.out HW_.out (by kernel_rfl)) (fun _ _ _ h => h) (Or.inl ⟨by rfl, ?_⟩) hHeld ?_ ?_
         rotate_left
         ·
          rintro w' ⟨s0, s1, s2, s3, s4, s5, s6, s7, s8⟩
          go_simp
          with_reducible rfl
         rotate_left
         ·
          simp only [Act.put, List.setIfInBounds_toArray, List.set_cons_zero, List.set_cons_succ, i64_w, i32_w]
          rfl
         refine take_ (i := 19) (N := some 106) (v := ?_) (a' := ?_) #[true, true, true, true, true, true, true, true, true, true, true, true, true, true, true, true, false, false, true, true, false, false, false, false, false, false, false, false, false, false, false, false, false, false, false, false, false, false] rfl rfl (take_ofW HT_.out HW_.out (by kernel_rfl)) (fun _ _ _ h => h) (Or.inl ⟨by rfl, ?_⟩) hHeld ?_ ?_
         rotate_left
         ·
          rintro w' ⟨s0, s1, s2, s3, s4, s5, s6, s7, s8⟩
          go_simp
          with_reducible rfl
         rotate_left
         ·
          simp only [Act.put, List.setIfInBounds_toArray, List.set_cons_zero, List.set_cons_succ, i64_w, i32_w]
          rfl
         refine take_ (i := 21) (N := some 108) (v := ?_) (a' := ?_) #[true, true, true, true, true, true, true, true, true, true, true, true, true, true, true, true, false, false, true, true, false, true, false, false, false, false, false, false, false, false, false, false, false, false, false, false, false, false] rfl rfl (take_ofW HT_.out HW_.out (by kernel_rfl)) (fun _ _ _ h => h) (Or.inl ⟨by rfl, ?_⟩) hHeld ?_ ?_
         rotate_left
         ·
          rintro w' ⟨s0, s1, s2, s3, s4, s5, s6, s7, s8⟩
          go_simp
          with_reducible rfl
         rotate_left
         ·
          simp only [Act.put, List.setIfInBounds_toArray, List.set_cons_zero, List.set_cons_succ, i64_w, i32_w]
          rfl
         refine take_ (i := 22) (N := some 109) (v := ?_) (a' := ?_) #[true, true, true, true, true, true, true, true, true, true, true, true, true, true, true, true, false, false, true, true, false, true, true, false, false, false, false, false, false, false, false, false, false, false, false, false, false, false] rfl rfl (take_ofW HT_.out HW_.out (by kernel_rfl)) (fun _ _ _ h => h) (Or.inl ⟨by rfl, ?_⟩) hHeld ?_ ?_
         rotate_left
         ·
          rintro w' ⟨s0, s1, s2, s3, s4, s5, s6, s7, s8⟩
          go_simp
          with_reducible rfl
         rotate_left
         ·
          simp only [Act.put, List.setIfInBounds_toArray, List.set_cons_zero, List.set_cons_succ, i64_w, i32_w]
          rfl
         refine one_ (i := 16) (N := some 103) #[true, true, true, true, true, true, true, true, true, true, true, true, true, true, true, true, true, false, true, true, false, true, true, false, false, false, false, false, false, false, false, false, false, false, false, false, false, false] rfl rfl (one_of HT_.out (by kernel_rfl)) (by decide) (fun K hK => ?_)
         refine goes_ Try.func24 (by kernel_rfl) rfl #[.agg #[.int .i64 a1_0, .int .i64 a1_1, .bool a1_2], .agg #[.int .i64 a2_0, .int .i64 a2_1, .bool a2_2]] (by rfl) rfl rfl (by (try simp only [List.map_toArray, List.map_cons, List.map_nil]); first | done | rfl | (simp only [List.length_drop, List.length_take]; rfl)) ?_
         with_reducible refine (frac_Frac_Add.calls kj3 a1_0 a1_1 a1_2 a2_0 a2_1 a2_2 t442 t443 t444 _ A73.out).mono ?_
         rintro e w84 ⟨rfl, hb⟩
         refine ⟨_, rfl, ?_⟩
         have n0_ := Aside0.mk (blk_below (g := gb397) (o := .cells #[.int .i64 a0_0, .int .i64 a0_1, .bool a0_2] 23 (0, 0)) (by (with_reducible repeat (first | refine blk_drewN ?_ _ | refine blk_drew ?_ | refine blk_alloc ?_ _)); exact BK397.out) hb)
         have n1_ := Aside0.mk (blk_below (g := gb398) (o := .cells #[.int .i64 a1_0, .int .i64 a1_1, .bool a1_2] 23 (0, 0)) (by (with_reducible repeat (first | refine blk_drewN ?_ _ | refine blk_drew ?_ | refine blk_alloc ?_ _)); exact BK398.out) hb)
         have n2_ := Aside0.mk (blk_below (g := gb399) (o := .cells #[.int .i64 a2_0, .int .i64 a2_1, .bool a2_2] 23 (0, 0)) (by (with_reducible repeat (first | refine blk_drewN ?_ _ | refine blk_drew ?_ | refine blk_alloc ?_ _)); exact BK399.out) hb)
         have n3_ := Aside0.mk (below_step (by repeat (first | (with_reducible first | exact HB.out | apply below_alloc | apply pw_below_drewN | apply below_drew1 | refine below_set ?_ GE397.out | refine below_set ?_ GE398.out | refine below_set ?_ GE399.out) | exact HB.out)) hb)
         clear BK397
         clear BK398
         clear BK399
         clear HB
         have BK397 := n0_
         have BK398 := n1_
         have BK399 := n2_
         have HB := n3_
         clear n0_ n1_ n2_ n3_
         (try clear hb)
         (try clear hb2)
         (try clear hk)
         (try clear hi)
         refine hK.out _ _ ⟨(blk_cell BK398.out 0).trans rfl, (blk_cell BK398.out 1).trans rfl, (blk_cell BK398.out 2).trans rfl, (blk_cell BK397.out 0).trans rfl, (blk_cell BK397.out 1).trans rfl, (blk_cell BK397.out 2).trans rfl, (blk_cell BK399.out 0).trans rfl, (blk_cell BK399.out 1).trans rfl, (blk_cell BK399.out 2).trans rfl⟩ (fun hHeld => ?_)
         clear hK K
         refine norm_ (a' := ?_) ?_ ?_
         rotate_left
         ·
          show Act.put _ (some 103) _ = _
          simp only [Act.put, List.setIfInBounds_toArray, List.set_cons_zero, List.set_cons_succ, i64_w, i32_w]
          rfl
         refine one_ (i := 17) (N := some 104) #[true, true, true, true, true, true, true, true, true, true, true, true, true, true, true, true, true, true, true, true, false, true, true, false, false, false, false, false, false, false, false, false, false, false, false, false, false, false] rfl rfl (one_of HT_.out (by kernel_rfl)) (by decide) (fun K hK => ?_)
         refine goes_ Try.func23 (by kernel_rfl) rfl #[.agg #[.int .i64 a0_0, .int .i64 a0_1, .bool a0_2], .agg #[.int .i64 t442, .int .i64 t443, .bool t444]] (by rfl) rfl rfl (by (try simp only [List.map_toArray, List.map_cons, List.map_nil]); first | done | rfl | (simp only [List.length_drop, List.length_take]; rfl)) ?_
         with_reducible refine (frac_Frac_Mul.calls kj3 a0_0 a0_1 a0_2 t442 t443 t444 t445 t446 t447 _ A74.out).mono ?_
         rintro e w85 ⟨rfl, hb⟩
         refine ⟨_, rfl, ?_⟩
         have n0_ := Aside0.mk (blk_below (g := gb397) (o := .cells #[.int .i64 a0_0, .int .i64 a0_1, .bool a0_2] 23 (0, 0)) (by (with_reducible repeat (first | refine blk_drewN ?_ _ | refine blk_drew ?_ | refine blk_alloc ?_ _)); exact BK397.out) hb)
         have n1_ := Aside0.mk (blk_below (g := gb398) (o := .cells #[.int .i64 a1_0, .int .i64 a1_1, .bool a1_2] 23 (0, 0)) (by (with_reducible repeat (first | refine blk_drewN ?_ _ | refine blk_drew ?_ | refine blk_alloc ?_ _)); exact BK398.out) hb)
         have n2_ := Aside0.mk (blk_below (g := gb399) (o := .cells #[.int .i64 a2_0, .int .i64 a2_1, .bool a2_2] 23 (0, 0)) (by (with_reducible repeat (first | refine blk_drewN ?_ _ | refine blk_drew ?_ | refine blk_alloc ?_ _)); exact BK399.out) hb)
         have n3_ := Aside0.mk (below_step (by repeat (first | (with_reducible first | exact HB.out | apply below_alloc | apply pw_below_drewN | apply below_drew1 | refine below_set ?_ GE397.out | refine below_set ?_ GE398.out | refine below_set ?_ GE399.out) | exact HB.out)) hb)
         clear BK397
         clear BK398
         clear BK399
         clear HB
         have BK397 := n0_
         have BK398 := n1_
         have BK399 := n2_
         have HB := n3_
         clear n0_ n1_ n2_ n3_
         (try clear hb)
         (try clear hb2)
         (try clear hk)
         (try clear hi)
         refine hK.out _ _ ⟨(blk_cell BK398.out 0).trans rfl, (blk_cell BK398.out 1).trans rfl, (blk_cell BK398.out 2).trans rfl, (blk_cell BK397.out 0).trans rfl, (blk_cell BK397.out 1).trans rfl, (blk_cell BK397.out 2).trans rfl, (blk_cell BK399.out 0).trans rfl, (blk_cell BK399.out 1).trans rfl, (blk_cell BK399.out 2).trans rfl⟩ (fun hHeld => ?_)
         clear hK K
         refine norm_ (a' := ?_) ?_ ?_
         rotate_left
         ·
          show Act.put _ (some 104) _ = _
          simp only [Act.put, List.setIfInBounds_toArray, List.set_cons_zero, List.set_cons_succ, i64_w, i32_w]
          rfl
         refine one_ (i := 20) (N := some 107) #[true, true, true, true, true, true, true, true, true, true, true, true, true, true, true, true, true, true, true, true, true, true, true, false, false, false, false, false, false, false, false, false, false, false, false, false, false, false] rfl rfl (one_of HT_.out (by kernel_rfl)) (by decide) (fun K hK => ?_)
         refine goes_ Try.func23 (by kernel_rfl) rfl #[.agg #[.int .i64 a0_0, .int .i64 a0_1, .bool a0_2], .agg #[.int .i64 a1_0, .int .i64 a1_1, .bool a1_2]] (by rfl) rfl rfl (by (try simp only [List.map_toArray, List.map_cons, List.map_nil]); first | done | rfl | (simp only [List.length_drop, List.length_take]; rfl)) ?_
         with_reducible refine (frac_Frac_Mul.calls kj3 a0_0 a0_1 a0_2 a1_0 a1_1 a1_2 t448 t449 t450 _ A75.out).mono ?_
         rintro e w86 ⟨rfl, hb⟩
         refine ⟨_, rfl, ?_⟩
         have n0_ := Aside0.mk (blk_below (g := gb397) (o := .cells #[.int .i64 a0_0, .int .i64 a0_1, .bool a0_2] 23 (0, 0)) (by (with_reducible repeat (first | refine blk_drewN ?_ _ | refine blk_drew ?_ | refine blk_alloc ?_ _)); exact BK397.out) hb)
         have n1_ := Aside0.mk (blk_below (g := gb398) (o := .cells #[.int .i64 a1_0, .int .i64 a1_1, .bool a1_2] 23 (0, 0)) (by (with_reducible repeat (first | refine blk_drewN ?_ _ | refine blk_drew ?_ | refine blk_alloc ?_ _)); exact BK398.out) hb)
         have n2_ := Aside0.mk (blk_below (g := gb399) (o := .cells #[.int .i64 a2_0, .int .i64 a2_1, .bool a2_2] 23 (0, 0)) (by (with_reducible repeat (first | refine blk_drewN ?_ _ | refine blk_drew ?_ | refine blk_alloc ?_ _)); exact BK399.out) hb)
         have n3_ := Aside0.mk (below_step (by repeat (first | (with_reducible first | exact HB.out | apply below_alloc | apply pw_below_drewN | apply below_drew1 | refine below_set ?_ GE397.out | refine below_set ?_ GE398.out | refine below_set ?_ GE399.out) | exact HB.out)) hb)
         clear BK397
         clear BK398
         clear BK399
         clear HB
         have BK397 := n0_
         have BK398 := n1_
         have BK399 := n2_
         have HB := n3_
         clear n0_ n1_ n2_ n3_
         (try clear hb)
         (try clear hb2)
         (try clear hk)
         (try clear hi)
         refine hK.out _ _ ⟨(blk_cell BK398.out 0).trans rfl, (blk_cell BK398.out 1).trans rfl, (blk_cell BK398.out 2).trans rfl, (blk_cell BK397.out 0).trans rfl, (blk_cell BK397.out 1).trans rfl, (blk_cell BK397.out 2).trans rfl, (blk_cell BK399.out 0).trans rfl, (blk_cell BK399.out 1).trans rfl, (blk_cell BK399.out 2).trans rfl⟩ (fun hHeld => ?_)
         clear hK K
         refine norm_ (a' := ?_) ?_ ?_
         rotate_left
         ·
          show Act.put _ (some 107) _ = _
          simp only [Act.put, List.setIfInBounds_toArray, List.set_cons_zero, List.set_cons_succ, i64_w, i32_w]
          rfl
         refine one_ (i := 23) (N := some 110) #[true, true, true, true, true, true, true, true, true, true, true, true, true, true, true, true, true, true, true, true, true, true, true, true, false, false, false, false, false, false, false, false, false, false, false, false, false, false] rfl rfl (one_of HT_.out (by kernel_rfl)) (by decide) (fun K hK => ?_)
         refine goes_ Try.func23 (by kernel_rfl) rfl #[.agg #[.int .i64 a0_0, .int .i64 a0_1, .bool a0_2], .agg #[.int .i64 a2_0, .int .i64 a2_1, .bool a2_2]] (by rfl) rfl rfl (by (try simp only [List.map_toArray, List.map_cons, List.map_nil]); first | done | rfl | (simp only [List.length_drop, List.length_take]; rfl)) ?_
         with_reducible refine (frac_Frac_Mul.calls kj3 a0_0 a0_1 a0_2 a2_0 a2_1 a2_2 t451 t452 t453 _ A76.out).mono ?_
         rintro e w87 ⟨rfl, hb⟩
         refine ⟨_, rfl, ?_⟩
         have n0_ := Aside0.mk (blk_below (g := gb397) (o := .cells #[.int .i64 a0_0, .int .i64 a0_1, .bool a0_2] 23 (0, 0)) (by (with_reducible repeat (first | refine blk_drewN ?_ _ | refine blk_drew ?_ | refine blk_alloc ?_ _)); exact BK397.out) hb)
         have n1_ := Aside0.mk (blk_below (g := gb398) (o := .cells #[.int .i64 a1_0, .int .i64 a1_1, .bool a1_2] 23 (0, 0)) (by (with_reducible repeat (first | refine blk_drewN ?_ _ | refine blk_drew ?_ | refine blk_alloc ?_ _)); exact BK398.out) hb)
         have n2_ := Aside0.mk (blk_below (g := gb399) (o := .cells #[.int .i64 a2_0, .int .i64 a2_1, .bool a2_2] 23 (0, 0)) (by (with_reducible repeat (first | refine blk_drewN ?_ _ | refine blk_drew ?_ | refine blk_alloc ?_ _)); exact BK399.out) hb)
         have n3_ := Aside0.mk (below_step (by repeat (first | (with_reducible first | exact HB.out | apply below_alloc | apply pw_below_drewN | apply below_drew1 | refine below_set ?_ GE397.out | refine below_set ?_ GE398.out | refine below_set ?_ GE399.out) | exact HB.out)) hb)
         clear BK397
         clear BK398
         clear BK399
         clear HB
         have BK397 := n0_
         have BK398 := n1_
         have BK399 := n2_
         have HB := n3_
         clear n0_ n1_ n2_ n3_
         (try clear hb)
         (try clear hb2)
         (try clear hk)
         (try clear hi)
         refine hK.out _ _ ⟨(blk_cell BK398.out 0).trans rfl, (blk_cell BK398.out 1).trans rfl, (blk_cell BK398.out 2).trans rfl, (blk_cell BK397.out 0).trans rfl, (blk_cell BK397.out 1).trans rfl, (blk_cell BK397.out 2).trans rfl, (blk_cell BK399.out 0).trans rfl, (blk_cell BK399.out 1).trans rfl, (blk_cell BK399.out 2).trans rfl⟩ (fun hHeld => ?_)
         clear hK K
         refine norm_ (a' := ?_) ?_ ?_
         rotate_left
         ·
          show Act.put _ (some 110) _ = _
          simp only [Act.put, List.setIfInBounds_toArray, List.set_cons_zero, List.set_cons_succ, i64_w, i32_w]
          rfl
         refine one_ (i := 24) (N := some 111) #[true, true, true, true, true, true, true, true, true, true, true, true, true, true, true, true, true, true, true, true, true, true, true, true, true, false, false, false, false, false, false, false, false, false, false, false, false, false] rfl rfl (one_of HT_.out (by kernel_rfl)) (by decide) (fun K hK => ?_)
         refine goes_ Try.func24 (by kernel_rfl) rfl #[.agg #[.int .i64 t448, .int .i64 t449, .bool t450], .agg #[.int .i64 t451, .int .i64 t452, .bool t453]] (by rfl) rfl rfl (by (try simp only [List.map_toArray, List.map_cons, List.map_nil]); first | done | rfl | (simp only [List.length_drop, List.length_take]; rfl)) ?_
         with_reducible refine (frac_Frac_Add.calls kj3 t448 t449 t450 t451 t452 t453 t445 t446 t447 _ A77.out).mono ?_
         rintro e w88 ⟨rfl, hb⟩
         refine ⟨_, rfl, ?_⟩
         have n0_ := Aside0.mk (blk_below (g := gb397) (o := .cells #[.int .i64 a0_0, .int .i64 a0_1, .bool a0_2] 23 (0, 0)) (by (with_reducible repeat (first | refine blk_drewN ?_ _ | refine blk_drew ?_ | refine blk_alloc ?_ _)); exact BK397.out) hb)
         have n1_ := Aside0.mk (blk_below (g := gb398) (o := .cells #[.int .i64 a1_0, .int .i64 a1_1, .bool a1_2] 23 (0, 0)) (by (with_reducible repeat (first | refine blk_drewN ?_ _ | refine blk_drew ?_ | refine blk_alloc ?_ _)); exact BK398.out) hb)
         have n2_ := Aside0.mk (blk_below (g := gb399) (o := .cells #[.int .i64 a2_0, .int .i64 a2_1, .bool a2_2] 23 (0, 0)) (by (with_reducible repeat (first | refine blk_drewN ?_ _ | refine blk_drew ?_ | refine blk_alloc ?_ _)); exact BK399.out) hb)
         have n3_ := Aside0.mk (below_step (by repeat (first | (with_reducible first | exact HB.out | apply below_alloc | apply pw_below_drewN | apply below_drew1 | refine below_set ?_ GE397.out | refine below_set ?_ GE398.out | refine below_set ?_ GE399.out) | exact HB.out)) hb)
         clear BK397
         clear BK398
         clear BK399
         clear HB
         have BK397 := n0_
         have BK398 := n1_
         have BK399 := n2_
         have HB := n3_
         clear n0_ n1_ n2_ n3_
         (try clear hb)
         (try clear hb2)
         (try clear hk)
         (try clear hi)
         refine hK.out _ _ ⟨(blk_cell BK398.out 0).trans rfl, (blk_cell BK398.out 1).trans rfl, (blk_cell BK398.out 2).trans rfl, (blk_cell BK397.out 0).trans rfl, (blk_cell BK397.out 1).trans rfl, (blk_cell BK397.out 2).trans rfl, (blk_cell BK399.out 0).trans rfl, (blk_cell BK399.out 1).trans rfl, (blk_cell BK399.out 2).trans rfl⟩ (fun hHeld => ?_)
         clear hK K
         refine norm_ (a' := ?_) ?_ ?_
         rotate_left
         ·
          show Act.put _ (some 111) _ = _
          simp only [Act.put, List.setIfInBounds_toArray, List.set_cons_zero, List.set_cons_succ, i64_w, i32_w]
          rfl
         refine pure_ (i := 25) (N := some 112) (v := ?_) (a' := ?_) #[true, true, true, true, true, true, true, true, true, true, true, true, true, true, true, true, true, true, true, true, true, true, true, true, true, true, false, false, false, false, false, false, false, false, false, false, false, false] rfl rfl (any_of HT_.out (by kernel_rfl)) (fun _ _ _ h => h) (Or.inl ⟨by rfl, ?_⟩) ?_ ?_
         rotate_left
         ·
          intro w'
          go_simp
          with_reducible rfl
         rotate_left
         ·
          simp only [Act.put, List.setIfInBounds_toArray, List.set_cons_zero, List.set_cons_succ, i64_w, i32_w]
          rfl
         refine pure_ (i := 26) (N := some 113) (v := ?_) (a' := ?_) #[true, true, true, true, true, true, true, true, true, true, true, true, true, true, true, true, true, true, true, true, true, true, true, true, true, true, true, false, false, false, false, false, false, false, false, false, false, false] rfl rfl (any_of HT_.out (by kernel_rfl)) (fun _ _ _ h => h) (Or.inl ⟨by rfl, ?_⟩) ?_ ?_
         rotate_left
         ·
          intro w'
          go_simp
          with_reducible rfl
         rotate_left
         ·
          simp only [Act.put, List.setIfInBounds_toArray, List.set_cons_zero, List.set_cons_succ, i64_w, i32_w]
          rfl
         refine pure_ (i := 27) (N := some 114) (v := ?_) (a' := ?_) #[true, true, true, true, true, true, true, true, true, true, true, true, true, true, true, true, true, true, true, true, true, true, true, true, true, true, true, true, false, false, false, false, false, false, false, false, false, false] rfl rfl (any_of HT_.out (by kernel_rfl)) (fun _ _ _ h => h) (Or.inl ⟨by rfl, ?_⟩) ?_ ?_
         rotate_left
         ·
          intro w'
          go_simp
          with_reducible rfl
         rotate_left
         ·
          simp only [Act.put, List.setIfInBounds_toArray, List.set_cons_zero, List.set_cons_succ, i64_w, i32_w]
          rfl
         refine take_ (i := 28) (N := some 115) (v := ?_) (a' := ?_) #[true, true, true, true, true, true, true, true, true, true, true, true, true, true, true, true, true, true, true, true, true, true, true, true, true, true, true, true, true, false, false, false, false, false, false, false, false, false] rfl rfl (take_ofW HT_.out HW_.out (by kernel_rfl)) (fun _ _ _ h => h) (Or.inl ⟨by rfl, ?_⟩) hHeld ?_ ?_
         rotate_left
         ·
          rintro w' ⟨s0, s1, s2, s3, s4, s5, s6, s7, s8⟩
          go_simp
          with_reducible rfl
         rotate_left
         ·
          simp only [Act.put, List.setIfInBounds_toArray, List.set_cons_zero, List.set_cons_succ, i64_w, i32_w]
          rfl
         refine take_ (i := 31) (N := some 118) (v := ?_) (a' := ?_) #[true, true, true, true, true, true, true, true, true, true, true, true, true, true, true, true, true, true, true, true, true, true, true, true, true, true, true, true, true, false, false, true, false, false, false, false, false, false] rfl rfl (take_ofW HT_.out HW_.out (by kernel_rfl)) (fun _ _ _ h => h) (Or.inl ⟨by rfl, ?_⟩) hHeld ?_ ?_
         rotate_left
         ·
          rintro w' ⟨s0, s1, s2, s3, s4, s5, s6, s7, s8⟩
          go_simp
          with_reducible rfl
         rotate_left
         ·
          simp only [Act.put, List.setIfInBounds_toArray, List.set_cons_zero, List.set_cons_succ, i64_w, i32_w]
          rfl
         refine one_ (i := 29) (N := some 116) #[true, true, true, true, true, true, true, true, true, true, true, true, true, true, true, true, true, true, true, true, true, true, true, true, true, true, true, true, true, true, false, true, false, false, false, false, false, false] rfl rfl (one_of HT_.out (by kernel_rfl)) (by decide) (fun K hK => ?_)
         refine goes_ Try.func18 (by kernel_rfl) rfl #[.agg #[.int .i64 a0_0, .int .i64 a0_1, .bool a0_2]] (by rfl) rfl rfl (by (try simp only [List.map_toArray, List.map_cons, List.map_nil]); first | done | rfl | (simp only [List.length_drop, List.length_take]; rfl)) ?_
         with_reducible refine (frac_Frac_Neg.calls kj3 a0_0 a0_1 a0_2 t457 t458 t459 _ A79.out).mono ?_
         rintro e w89 ⟨rfl, hb⟩
         refine ⟨_, rfl, ?_⟩
         have n0_ := Aside0.mk (blk_below (g := gb397) (o := .cells #[.int .i64 a0_0, .int .i64 a0_1, .bool a0_2] 23 (0, 0)) (by (with_reducible repeat (first | refine blk_drewN ?_ _ | refine blk_drew ?_ | refine blk_alloc ?_ _)); exact BK397.out) hb)
         have n1_ := Aside0.mk (blk_below (g := gb398) (o := .cells #[.int .i64 a1_0, .int .i64 a1_1, .bool a1_2] 23 (0, 0)) (by (with_reducible repeat (first | refine blk_drewN ?_ _ | refine blk_drew ?_ | refine blk_alloc ?_ _)); exact BK398.out) hb)
         have n2_ := Aside0.mk (blk_below (g := gb399) (o := .cells #[.int .i64 a2_0, .int .i64 a2_1, .bool a2_2] 23 (0, 0)) (by (with_reducible repeat (first | refine blk_drewN ?_ _ | refine blk_drew ?_ | refine blk_alloc ?_ _)); exact BK399.out) hb)
         have n3_ := Aside0.mk (below_step (by repeat (first | (with_reducible first | exact HB.out | apply below_alloc | apply pw_below_drewN | apply below_drew1 | refine below_set ?_ GE397.out | refine below_set ?_ GE398.out | refine below_set ?_ GE399.out) | exact HB.out)) hb)
         clear BK397
         clear BK398
         clear BK399
         clear HB
         have BK397 := n0_
         have BK398 := n1_
         have BK399 := n2_
         have HB := n3_
         clear n0_ n1_ n2_ n3_
         (try clear hb)
         (try clear hb2)
         (try clear hk)
         (try clear hi)
         refine hK.out _ _ ⟨(blk_cell BK398.out 0).trans rfl, (blk_cell BK398.out 1).trans rfl, (blk_cell BK398.out 2).trans rfl, (blk_cell BK397.out 0).trans rfl, (blk_cell BK397.out 1).trans rfl, (blk_cell BK397.out 2).trans rfl, (blk_cell BK399.out 0).trans rfl, (blk_cell BK399.out 1).trans rfl, (blk_cell BK399.out 2).trans rfl⟩ (fun hHeld => ?_)
         clear hK K
         refine norm_ (a' := ?_) ?_ ?_
         rotate_left
         ·
          show Act.put _ (some 116) _ = _
          simp only [Act.put, List.setIfInBounds_toArray, List.set_cons_zero, List.set_cons_succ, i64_w, i32_w]
          rfl
         refine one_ (i := 30) (N := some 117) #[true, true, true, true, true, true, true, true, true, true, true, true, true, true, true, true, true, true, true, true, true, true, true, true, true, true, true, true, true, true, true, true, false, false, false, false, false, false] rfl rfl (one_of HT_.out (by kernel_rfl)) (by decide) (fun K hK => ?_)
         refine goes_ Try.func18 (by kernel_rfl) rfl #[.agg #[.int .i64 t457, .int .i64 t458, .bool t459]] (by rfl) rfl rfl (by (try simp only [List.map_toArray, List.map_cons, List.map_nil]); first | done | rfl | (simp only [List.length_drop, List.length_take]; rfl)) ?_
         with_reducible refine (frac_Frac_Neg.calls kj3 t457 t458 t459 t460 t461 t462 _ A80.out).mono ?_
         rintro e w90 ⟨rfl, hb⟩
         refine ⟨_, rfl, ?_⟩
         have n0_ := Aside0.mk (blk_below (g := gb397) (o := .cells #[.int .i64 a0_0, .int .i64 a0_1, .bool a0_2] 23 (0, 0)) (by (with_reducible repeat (first | refine blk_drewN ?_ _ | refine blk_drew ?_ | refine blk_alloc ?_ _)); exact BK397.out) hb)
         have n1_ := Aside0.mk (blk_below (g := gb398) (o := .cells #[.int .i64 a1_0, .int .i64 a1_1, .bool a1_2] 23 (0, 0)) (by (with_reducible repeat (first | refine blk_drewN ?_ _ | refine blk_drew ?_ | refine blk_alloc ?_ _)); exact BK398.out) hb)
         have n2_ := Aside0.mk (blk_below (g := gb399) (o := .cells #[.int .i64 a2_0, .int .i64 a2_1, .bool a2_2] 23 (0, 0)) (by (with_reducible repeat (first | refine blk_drewN ?_ _ | refine blk_drew ?_ | refine blk_alloc ?_ _)); exact BK399.out) hb)
         have n3_ := Aside0.mk (below_step (by repeat (first | (with_reducible first | exact HB.out | apply below_alloc | apply pw_below_drewN | apply below_drew1 | refine below_set ?_ GE397.out | refine below_set ?_ GE398.out | refine below_set ?_ GE399.out) | exact HB.out)) hb)
         clear BK397
         clear BK398
         clear BK399
         clear HB
         have BK397 := n0_
         have BK398 := n1_
         have BK399 := n2_
         have HB := n3_
         clear n0_ n1_ n2_ n3_
         (try clear hb)
         (try clear hb2)
         (try clear hk)
         (try clear hi)
         refine hK.out _ _ ⟨(blk_cell BK398.out 0).trans rfl, (blk_cell BK398.out 1).trans rfl, (blk_cell BK398.out 2).trans rfl, (blk_cell BK397.out 0).trans rfl, (blk_cell BK397.out 1).trans rfl, (blk_cell BK397.out 2).trans rfl, (blk_cell BK399.out 0).trans rfl, (blk_cell BK399.out 1).trans rfl, (blk_cell BK399.out 2).trans rfl⟩ (fun hHeld => ?_)
         clear hK K
         refine norm_ (a' := ?_) ?_ ?_
         rotate_left
         ·
          show Act.put _ (some 117) _ = _
          simp only [Act.put, List.setIfInBounds_toArray, List.set_cons_zero, List.set_cons_succ, i64_w, i32_w]
          rfl
         refine pure_ (i := 32) (N := some 119) (v := ?_) (a' := ?_) #[true, true, true, true, true, true, true, true, true, true, true, true, true, true, true, true, true, true, true, true, true, true, true, true, true, true, true, true, true, true, true, true, true, false, false, false, false, false] rfl rfl (any_of HT_.out (by kernel_rfl)) (fun _ _ _ h => h) (Or.inl ⟨by rfl, ?_⟩) ?_ ?_
         rotate_left
         ·
          intro w'
          go_simp
          with_reducible rfl
         rotate_left
         ·
          simp only [Act.put, List.setIfInBounds_toArray, List.set_cons_zero, List.set_cons_succ, i64_w, i32_w]
          rfl
         refine pure_ (i := 33) (N := some 120) (v := ?_) (a' := ?_) #[true, true, true, true, true, true, true, true, true, true, true, true, true, true, true, true, true, true, true, true, true, true, true, true, true, true, true, true, true, true, true, true, true, true, false, false, false, false] rfl rfl (any_of HT_.out (by kernel_rfl)) (fun _ _ _ h => h) (Or.inl ⟨by rfl, ?_⟩) ?_ ?_
         rotate_left
         ·
          intro w'
          go_simp
          with_reducible rfl
         rotate_left
         ·
          simp only [Act.put, List.setIfInBounds_toArray, List.set_cons_zero, List.set_cons_succ, i64_w, i32_w]
          rfl
         refine pure_ (i := 34) (N := some 121) (v := ?_) (a' := ?_) #[true, true, true, true, true, true, true, true, true, true, true, true, true, true, true, true, true, true, true, true, true, true, true, true, true, true, true, true, true, true, true, true, true, true, true, false, false, false] rfl rfl (any_of HT_.out (by kernel_rfl)) (fun _ _ _ h => h) (Or.inl ⟨by rfl, ?_⟩) ?_ ?_
         rotate_left
         ·
          intro w'
          go_simp
          with_reducible rfl
         rotate_left
         ·
          simp only [Act.put, List.setIfInBounds_toArray, List.set_cons_zero, List.set_cons_succ, i64_w, i32_w]
          rfl
         refine one_ (i := 35) (N := some 122) #[true, true, true, true, true, true, true, true, true, true, true, true, true, true, true, true, true, true, true, true, true, true, true, true, true, true, true, true, true, true, true, true, true, true, true, true, false, false] rfl rfl (one_of HT_.out (by kernel_rfl)) (by decide) (fun K hK => ?_)
         refine goes_ Try.func12 (by kernel_rfl) rfl #[] (by rfl) rfl rfl (by (try simp only [List.map_toArray, List.map_cons, List.map_nil]); first | done | rfl | (simp only [List.length_drop, List.length_take]; rfl)) ?_
         with_reducible refine (coupletlaw04_awake.calls kj3  t463 _ A82.out).mono ?_
         rintro e w91 ⟨rfl, hb⟩
         refine ⟨_, rfl, ?_⟩
         have n0_ := Aside0.mk (blk_below (g := gb397) (o := .cells #[.int .i64 a0_0, .int .i64 a0_1, .bool a0_2] 23 (0, 0)) (by (with_reducible repeat (first | refine blk_drewN ?_ _ | refine blk_drew ?_ | refine blk_alloc ?_ _)); exact BK397.out) hb)
         have n1_ := Aside0.mk (blk_below (g := gb398) (o := .cells #[.int .i64 a1_0, .int .i64 a1_1, .bool a1_2] 23 (0, 0)) (by (with_reducible repeat (first | refine blk_drewN ?_ _ | refine blk_drew ?_ | refine blk_alloc ?_ _)); exact BK398.out) hb)
         have n2_ := Aside0.mk (blk_below (g := gb399) (o := .cells #[.int .i64 a2_0, .int .i64 a2_1, .bool a2_2] 23 (0, 0)) (by (with_reducible repeat (first | refine blk_drewN ?_ _ | refine blk_drew ?_ | refine blk_alloc ?_ _)); exact BK399.out) hb)
         have n3_ := Aside0.mk (below_step (by repeat (first | (with_reducible first | exact HB.out | apply below_alloc | apply pw_below_drewN | apply below_drew1 | refine below_set ?_ GE397.out | refine below_set ?_ GE398.out | refine below_set ?_ GE399.out) | exact HB.out)) hb)
         clear BK397
         clear BK398
         clear BK399
         clear HB
         have BK397 := n0_
         have BK398 := n1_
         have BK399 := n2_
         have HB := n3_
         clear n0_ n1_ n2_ n3_
         (try clear hb)
         (try clear hb2)
         (try clear hk)
         (try clear hi)
         refine hK.out _ _ ⟨(blk_cell BK398.out 0).trans rfl, (blk_cell BK398.out 1).trans rfl, (blk_cell BK398.out 2).trans rfl, (blk_cell BK397.out 0).trans rfl, (blk_cell BK397.out 1).trans rfl, (blk_cell BK397.out 2).trans rfl, (blk_cell BK399.out 0).trans rfl, (blk_cell BK399.out 1).trans rfl, (blk_cell BK399.out 2).trans rfl⟩ (fun hHeld => ?_)
         clear hK K
         refine norm_ (a' := ?_) ?_ ?_
         rotate_left
         ·
          show Act.put _ (some 122) _ = _
          simp only [Act.put, List.setIfInBounds_toArray, List.set_cons_zero, List.set_cons_succ, i64_w, i32_w]
          rfl
         refine pure_ (i := 36) (N := some 123) (v := ?_) (a' := ?_) #[true, true, true, true, true, true, true, true, true, true, true, true, true, true, true, true, true, true, true, true, true, true, true, true, true, true, true, true, true, true, true, true, true, true, true, true, true, false] rfl rfl (any_of HT_.out (by kernel_rfl)) (fun _ _ _ h => h) (Or.inl ⟨by rfl, ?_⟩) ?_ ?_
         rotate_left
         ·
          intro w'
          go_simp
          with_reducible rfl
         rotate_left
         ·
          simp only [Act.put, List.setIfInBounds_toArray, List.set_cons_zero, List.set_cons_succ, i64_w, i32_w]
          rfl
         refine pure_ (i := 37) (N := some 6) (v := ?_) (a' := ?_) #[true, true, true, true, true, true, true, true, true, true, true, true, true, true, true, true, true, true, true, true, true, true, true, true, true, true, true, true, true, true, true, true, true, true, true, true, true, true] rfl rfl (any_of HT_.out (by kernel_rfl)) (fun _ _ _ h => h) (Or.inl ⟨by rfl, ?_⟩) ?_ ?_
         rotate_left
         ·
          intro w'
          go_simp
          with_reducible rfl
         rotate_left
         ·
          simp only [Act.put, List.setIfInBounds_toArray, List.set_cons_zero, List.set_cons_succ, i64_w, i32_w]
          rfl
         refine done_ (done_of HT_.out (by kernel_rfl)) ?_
         try go_wp2
         go_ret
         exact ⟨by first | rfl | (simp [errW_none, errW_some] <;> rfl) | (simp [*, errW_none, errW_some] <;> rfl), by repeat (first | (with_reducible first | exact HB.out | apply below_alloc | apply pw_below_drewN | apply below_drew1 | refine below_set ?_ GE397.out | refine below_set ?_ GE398.out | refine below_set ?_ GE399.out) | exact HB.out)⟩
        ·
         rw [if_neg c81] at H
         have c81b0 : (t460 == a0_0 && (t461 == a0_1 && (t462 == a0_2))) = false := by simpa using c81
         (try (have c81b1 : decide (t460 = a0_0 && (t461 == a0_1 && (t462 == a0_2))) = false := by simpa using c81))
         (try (have c81b2 : (t460 == a0_0 && (t461 == a0_1 && (t462 == a0_2))) = false := by simpa using c81))
         (try (have c81b3 : ¬ (t460 = a0_0 && (t461 == a0_1 && (t462 == a0_2))) := by simpa using c81))
         clear c81
         obtain rfl := Option.some.inj H
         exact absurd hr (by decide)
       ·
        rw [if_neg c78] at H
        have c78b0 : (t445 == t454 && (t446 == t455 && (t447 == t456))) = false := by simpa using c78
        (try (have c78b1 : decide (t445 = t454 && (t446 == t455 && (t447 == t456))) = false := by simpa using c78))
        (try (have c78b2 : (t445 == t454 && (t446 == t455 && (t447 == t456))) = false := by simpa using c78))
        (try (have c78b3 : ¬ (t445 = t454 && (t446 == t455 && (t447 == t456))) := by simpa using c78))
        clear c78
        obtain rfl := Option.some.inj H
        exact absurd hr (by decide)
      ·
       rw [if_neg c72] at H
       have c72b0 : (a1_0 == 0) = false := beq_eq_false_iff_ne.mpr c72
       have c72b1 : (a1_0 != 0) = true := bne_iff_ne.mpr c72
       replace H := Option.bind_eq_some_iff.mp H
       obtain ⟨⟨t464, t465, t466⟩, A1060, H⟩ := H
       replace H : ((frac_Frac_Div.f kj3 t464 t465 t466 a1_0 a1_1 a1_2).bind fun bt467 => (if (bt467.1 == a0_0 && (bt467.2.1 == a0_1 && (bt467.2.2 == a0_2))) = true then ((frac_Frac_Add.f kj3 a1_0 a1_1 a1_2 a2_0 a2_1 a2_2).bind fun bt470 => ((frac_Frac_Mul.f kj3 a0_0 a0_1 a0_2 bt470.1 bt470.2.1 bt470.2.2).bind fun bt473 => ((frac_Frac_Mul.f kj3 a0_0 a0_1 a0_2 a1_0 a1_1 a1_2).bind fun bt476 => ((frac_Frac_Mul.f kj3 a0_0 a0_1 a0_2 a2_0 a2_1 a2_2).bind fun bt479 => ((frac_Frac_Add.f kj3 bt476.1 bt476.2.1 bt476.2.2 bt479.1 bt479.2.1 bt479.2.2).bind fun bt482 => (if (bt473.1 == bt482.1 && (bt473.2.1 == bt482.2.1 && (bt473.2.2 == bt482.2.2))) = true then ((frac_Frac_Neg.f kj3 a0_0 a0_1 a0_2).bind fun bt485 => ((frac_Frac_Neg.f kj3 bt485.1 bt485.2.1 bt485.2.2).bind fun bt488 => (if (bt488.1 == a0_0 && (bt488.2.1 == a0_1 && (bt488.2.2 == a0_2))) = true then ((coupletlaw04_awake.f kj3).bind fun t491 => (some t491)) else (some false)))) else (some false))))))) else (some false))) = some r := H
       have A106 := Aside0.mk A1060
       clear A1060
       replace H := Option.bind_eq_some_iff.mp H
       obtain ⟨⟨t467, t468, t469⟩, A1070, H⟩ := H
       replace H : (if (t467 == a0_0 && (t468 == a0_1 && (t469 == a0_2))) = true then ((frac_Frac_Add.f kj3 a1_0 a1_1 a1_2 a2_0 a2_1 a2_2).bind fun bt470 => ((frac_Frac_Mul.f kj3 a0_0 a0_1 a0_2 bt470.1 bt470.2.1 bt470.2.2).bind fun bt473 => ((frac_Frac_Mul.f kj3 a0_0 a0_1 a0_2 a1_0 a1_1 a1_2).bind fun bt476 => ((frac_Frac_Mul.f kj3 a0_0 a0_1 a0_2 a2_0 a2_1 a2_2).bind fun bt479 => ((frac_Frac_Add.f kj3 bt476.1 bt476.2.1 bt476.2.2 bt479.1 bt479.2.1 bt479.2.2).bind fun bt482 => (if (bt473.1 == bt482.1 && (bt473.2.1 == bt482.2.1 && (bt473.2.2 == bt482.2.2))) = true then ((frac_Frac_Neg.f kj3 a0_0 a0_1 a0_2).bind fun bt485 => ((frac_Frac_Neg.f kj3 bt485.1 bt485.2.1 bt485.2.2).bind fun bt488 => (if (bt488.1 == a0_0 && (bt488.2.1 == a0_1 && (bt488.2.2 == a0_2))) = true then ((coupletlaw04_awake.f kj3).bind fun t491 => (some t491)) else (some false)))) else (some false))))))) else (some false)) = some r := H
       have A107 := Aside0.mk A1070
       clear A1070
       by_cases c108 : (t467 == a0_0 && (t468 == a0_1 && (t469 == a0_2))) = true
       ·
        rw [if_pos c108] at H
        have c108b0 : (t467 == a0_0 && (t468 == a0_1 && (t469 == a0_2))) = true := c108
        (try (have c108b1 : decide (t467 = a0_0 && (t468 == a0_1 && (t469 == a0_2))) = true := by simpa using c108))
        (try (have c108b2 : (t467 == a0_0 && (t468 == a0_1 && (t469 == a0_2))) = true := by simpa using c108))
        clear c108
        replace H := Option.bind_eq_some_iff.mp H
        obtain ⟨⟨t470, t471, t472⟩, A1090, H⟩ := H
        replace H : ((frac_Frac_Mul.f kj3 a0_0 a0_1 a0_2 t470 t471 t472).bind fun bt473 => ((frac_Frac_Mul.f kj3 a0_0 a0_1 a0_2 a1_0 a1_1 a1_2).bind fun bt476 => ((frac_Frac_Mul.f kj3 a0_0 a0_1 a0_2 a2_0 a2_1 a2_2).bind fun bt479 => ((frac_Frac_Add.f kj3 bt476.1 bt476.2.1 bt476.2.2 bt479.1 bt479.2.1 bt479.2.2).bind fun bt482 => (if (bt473.1 == bt482.1 && (bt473.2.1 == bt482.2.1 && (bt473.2.2 == bt482.2.2))) = true then ((frac_Frac_Neg.f kj3 a0_0 a0_1 a0_2).bind fun bt485 => ((frac_Frac_Neg.f kj3 bt485.1 bt485.2.1 bt485.2.2).bind fun bt488 => (if (bt488.1 == a0_0 && (bt488.2.1 == a0_1 && (bt488.2.2 == a0_2))) = true then ((coupletlaw04_awake.f kj3).bind fun t491 => (some t491)) else (some false)))) else (some false)))))) = some r := H
        have A109 := Aside0.mk A1090
        clear A1090
        replace H := Option.bind_eq_some_iff.mp H
        obtain ⟨⟨t473, t474, t475⟩, A1100, H⟩ := H
        replace H : ((frac_Frac_Mul.f kj3 a0_0 a0_1 a0_2 a1_0 a1_1 a1_2).bind fun bt476 => ((frac_Frac_Mul.f kj3 a0_0 a0_1 a0_2 a2_0 a2_1 a2_2).bind fun bt479 => ((frac_Frac_Add.f kj3 bt476.1 bt476.2.1 bt476.2.2 bt479.1 bt479.2.1 bt479.2.2).bind fun bt482 => (if (t473 == bt482.1 && (t474 == bt482.2.1 && (t475 == bt482.2.2))) = true then ((frac_Frac_Neg.f kj3 a0_0 a0_1 a0_2).bind fun bt485 => ((frac_Frac_Neg.f kj3 bt485.1 bt485.2.1 bt485.2.2).bind fun bt488 => (if (bt488.1 == a0_0 && (bt488.2.1 == a0_1 && (bt488.2.2 == a0_2))) = true then ((coupletlaw04_awake.f kj3).bind fun t491 => (some t491)) else (some false)))) else (some false))))) = some r := H
        have A110 := Aside0.mk A1100
        clear A1100
        replace H := Option.bind_eq_some_iff.mp H
        obtain ⟨⟨t476, t477, t478⟩, A1110, H⟩ := H
        replace H : ((frac_Frac_Mul.f kj3 a0_0 a0_1 a0_2 a2_0 a2_1 a2_2).bind fun bt479 => ((frac_Frac_Add.f kj3 t476 t477 t478 bt479.1 bt479.2.1 bt479.2.2).bind fun bt482 => (if (t473 == bt482.1 && (t474 == bt482.2.1 && (t475 == bt482.2.2))) = true then ((frac_Frac_Neg.f kj3 a0_0 a0_1 a0_2).bind fun bt485 => ((frac_Frac_Neg.f kj3 bt485.1 bt485.2.1 bt485.2.2).bind fun bt488 => (if (bt488.1 == a0_0 && (bt488.2.1 == a0_1 && (bt488.2.2 == a0_2))) = true then ((coupletlaw04_awake.f kj3).bind fun t491 => (some t491)) else (some false)))) else (some false)))) = some r := H
        have A111 := Aside0.mk A1110
        clear A1110
        have e_ := Option.some.inj (A106.out.symm.trans A111.out)
        simp only [Prod.mk.injEq] at e_
        obtain ⟨rfl, rfl, rfl⟩ := e_
        replace H := Option.bind_eq_some_iff.mp H
        obtain ⟨⟨t479, t480, t481⟩, A1120, H⟩ := H
        replace H : ((frac_Frac_Add.f kj3 t464 t465 t466 t479 t480 t481).bind fun bt482 => (if (t473 == bt482.1 && (t474 == bt482.2.1 && (t475 == bt482.2.2))) = true then ((frac_Frac_Neg.f kj3 a0_0 a0_1 a0_2).bind fun bt485 => ((frac_Frac_Neg.f kj3 bt485.1 bt485.2.1 bt485.2.2).bind fun bt488 => (if (bt488.1 == a0_0 && (bt488.2.1 == a0_1 && (bt488.2.2 == a0_2))) = true then ((coupletlaw04_awake.f kj3).bind fun t491 => (some t491)) else (some false)))) else (some false))) = some r := H
        have A112 := Aside0.mk A1120
        clear A1120
        replace H := Option.bind_eq_some_iff.mp H
        obtain ⟨⟨t482, t483, t484⟩, A1130, H⟩ := H
        replace H : (if (t473 == t482 && (t474 == t483 && (t475 == t484))) = true then ((frac_Frac_Neg.f kj3 a0_0 a0_1 a0_2).bind fun bt485 => ((frac_Frac_Neg.f kj3 bt485.1 bt485.2.1 bt485.2.2).bind fun bt488 => (if (bt488.1 == a0_0 && (bt488.2.1 == a0_1 && (bt488.2.2 == a0_2))) = true then ((coupletlaw04_awake.f kj3).bind fun t491 => (some t491)) else (some false)))) else (some false)) = some r := H
        have A113 := Aside0.mk A1130
        clear A1130
        by_cases c114 : (t473 == t482 && (t474 == t483 && (t475 == t484))) = true
        ·
         rw [if_pos c114] at H
         have c114b0 : (t473 == t482 && (t474 == t483 && (t475 == t484))) = true := c114
         (try (have c114b1 : decide (t473 = t482 && (t474 == t483 && (t475 == t484))) = true := by simpa using c114))
         (try (have c114b2 : (t473 == t482 && (t474 == t483 && (t475 == t484))) = true := by simpa using c114))
         clear c114
         have ce_ : ((t473 == t482 && (t474 == t483 && (t475 == t484)))) = true := c114b0
         simp only [Bool.and_eq_true, beq_iff_eq] at ce_
         obtain ⟨rfl, rfl, rfl⟩ := ce_
         replace H := Option.bind_eq_some_iff.mp H
         obtain ⟨⟨t485, t486, t487⟩, A1150, H⟩ := H
         replace H : ((frac_Frac_Neg.f kj3 t485 t486 t487).bind fun bt488 => (if (bt488.1 == a0_0 && (bt488.2.1 == a0_1 && (bt488.2.2 == a0_2))) = true then ((coupletlaw04_awake.f kj3).bind fun t491 => (some t491)) else (some false))) = some r := H
         have A115 := Aside0.mk A1150
         clear A1150
         replace H := Option.bind_eq_some_iff.mp H
         obtain ⟨⟨t488, t489, t490⟩, A1160, H⟩ := H
         replace H : (if (t488 == a0_0 && (t489 == a0_1 && (t490 == a0_2))) = true then ((coupletlaw04_awake.f kj3).bind fun t491 => (some t491)) else (some false)) = some r := H
         have A116 := Aside0.mk A1160
         clear A1160
         by_cases c117 : (t488 == a0_0 && (t489 == a0_1 && (t490 == a0_2))) = true
         ·
          rw [if_pos c117] at H
          have c117b0 : (t488 == a0_0 && (t489 == a0_1 && (t490 == a0_2))) = true := c117
          (try (have c117b1 : decide (t488 = a0_0 && (t489 == a0_1 && (t490 == a0_2))) = true := by simpa using c117))
          (try (have c117b2 : (t488 == a0_0 && (t489 == a0_1 && (t490 == a0_2))) = true := by simpa using c117))
          clear c117
          replace H := Option.bind_eq_some_iff.mp H
          obtain ⟨t491, A1180, H⟩ := H
          replace H : (some t491) = some r := H
          have A118 := Aside0.mk A1180
          clear A1180
          obtain rfl := Option.some.inj H
          try go_wp2
          have n0_ := Aside0.mk (blk_drew BK397.out)
          have n1_ := Aside0.mk (blk_drew BK398.out)
          have n2_ := Aside0.mk (blk_drew BK399.out)
          have n3_ := Aside0.mk (below_drew1 HB.out)
          clear BK397
          clear BK398
          clear BK399
          clear HB
          have BK397 := n0_
          have BK398 := n1_
          have BK399 := n2_
          have HB := n3_
          clear n0_ n1_ n2_ n3_
          refine start_ (n := 38) (S := fun w' => w'.cell? ⟨gb398, 0, none⟩ = some (.int .i64 a1_0) ∧ w'.cell? ⟨gb398, 1, none⟩ = some (.int .i64 a1_1) ∧ w'.cell? ⟨gb398, 2, none⟩ = some (.bool a1_2) ∧ w'.cell? ⟨gb397, 0, none⟩ = some (.int .i64 a0_0) ∧ w'.cell? ⟨gb397, 1, none⟩ = some (.int .i64 a0_1) ∧ w'.cell? ⟨gb397, 2, none⟩ = some (.bool a0_2) ∧ w'.cell? ⟨gb399, 0, none⟩ = some (.int .i64 a2_0) ∧ w'.cell? ⟨gb399, 1, none⟩ = some (.int .i64 a2_1) ∧ w'.cell? ⟨gb399, 2, none⟩ = some (.bool a2_2)) (ds := []) #[false, false, false, false, false, false, false, false, false, false, false, false, false, false, false, false, false, false, false, false, false, false, false, false, false, false, false, false, false, false, false, false, false, false, false, false, false, false] (by kernel_rfl) rfl rfl ⟨(blk_cell BK398.out 0).trans rfl, (blk_cell BK398.out 1).trans rfl, (blk_cell BK398.out 2).trans rfl, (blk_cell BK397.out 0).trans rfl, (blk_cell BK397.out 1).trans rfl, (blk_cell BK397.out 2).trans rfl, (blk_cell BK399.out 0).trans rfl, (blk_cell BK399.out 1).trans rfl, (blk_cell BK399.out 2).trans rfl⟩ (fun hHeld => ?_); refine with_tabW coupletlaw04_FracRules.tab9 coupletlaw04_FracRules.bits9 (fun HT_ HW_ => ?_)
          generalize wc.drew = w119 at BK397 BK398 BK399 HB hHeld ⊢
          refine pure_ (i := 0) (N := some 87) (v := ?_) (a' := ?_) #[true, false, false, false, false, false, false, false, false, false, false, false, false, false, false, false, false, false, false, false, false, false, false, false, false, false, false, false, false, false, false, false, false, false, false, false, false, false] rfl rfl (any_of HT_.out (by kernel_rfl)) (fun _ _ _ h => h) (Or.inl ⟨by rfl, ?_⟩) ?_ ?_
          rotate_left
          ·
           intro w'
           go_simp
           with_reducible rfl
          rotate_left
          ·
           simp only [Act.put, List.setIfInBounds_toArray, List.set_cons_zero, List.set_cons_succ, i64_w, i32_w]
           rfl
          refine take_ (i := 1) (N := some 88) (v := ?_) (a' := ?_) #[true, true, false, false, false, false, false, false, false, false, false, false, false, false, false, false, false, false, false, false, false, false, false, false, false, false, false, false, false, false, false, false, false, false, false, false, false, false] rfl rfl (take_ofW HT_.out HW_.out (by kernel_rfl)) (fun _ _ _ h => h) (Or.inl ⟨by rfl, ?_⟩) hHeld ?_ ?_
          rotate_left
          ·
           rintro w' ⟨s0, s1, s2, s3, s4, s5, s6, s7, s8⟩
           go_simp
           with_reducible rfl
          rotate_left
          ·
           simp only [Act.put, List.setIfInBounds_toArray, List.set_cons_zero, List.set_cons_succ, i64_w, i32_w]
           rfl
          refine pure_ (i := 2) (N := some 89) (v := ?_) (a' := ?_) #[true, true, true, false, false, false, false, false, false, false, false, false, false, false, false, false, false, false, false, false, false, false, false, false, false, false, false, false, false, false, false, false, false, false, false, false, false, false] rfl rfl (any_of HT_.out (by kernel_rfl)) (fun _ _ _ h => h) (Or.inl ⟨by rfl, ?_⟩) ?_ ?_
          rotate_left
          ·
           intro w'
           go_simp
           with_reducible rfl
          rotate_left
          ·
           simp only [Act.put, List.setIfInBounds_toArray, List.set_cons_zero, List.set_cons_succ, i64_w, i32_w]
           rfl
          refine pure_ (i := 3) (N := some 90) (v := ?_) (a' := ?_) #[true, true, true, true, false, false, false, false, false, false, false, false, false, false, false, false, false, false, false, false, false, false, false, false, false, false, false, false, false, false, false, false, false, false, false, false, false, false] rfl rfl (any_of HT_.out (by kernel_rfl)) (fun _ _ _ h => h) (Or.inl ⟨by rfl, ?_⟩) ?_ ?_
          rotate_left
          ·
           intro w'
           go_simp
           with_reducible rfl
          rotate_left
          ·
           simp only [Act.put, List.setIfInBounds_toArray, List.set_cons_zero, List.set_cons_succ, i64_w, i32_w]
           rfl
          refine take_ (i := 4) (N := some 91) (v := ?_) (a' := ?_) #[true, true, true, true, true, false, false, false, false, false, false, false, false, false, false, false, false, false, false, false, false, false, false, false, false, false, false, false, false, false, false, false, false, false, false, false, false, false] rfl rfl (take_ofW HT_.out HW_.out (by kernel_rfl)) (fun _ _ _ h => h) (Or.inl ⟨by rfl, ?_⟩) hHeld ?_ ?_
          rotate_left
          ·
           rintro w' ⟨s0, s1, s2, s3, s4, s5, s6, s7, s8⟩
           go_simp
           with_reducible rfl
          rotate_left
          ·
           simp only [Act.put, List.setIfInBounds_toArray, List.set_cons_zero, List.set_cons_succ, i64_w, i32_w]
           rfl
          refine take_ (i := 5) (N := some 92) (v := ?_) (a' := ?_) #[true, true, true, true, true, true, false, false, false, false, false, false, false, false, false, false, false, false, false, false, false, false, false, false, false, false, false, false, false, false, false, false, false, false, false, false, false, false] rfl rfl (take_ofW HT_.out HW_.out (by kernel_rfl)) (fun _ _ _ h => h) (Or.inl ⟨by rfl, ?_⟩) hHeld ?_ ?_
          rotate_left
          ·
           rintro w' ⟨s0, s1, s2, s3, s4, s5, s6, s7, s8⟩
           go_simp
           with_reducible rfl
          rotate_left
          ·
           simp only [Act.put, List.setIfInBounds_toArray, List.set_cons_zero, List.set_cons_succ, i64_w, i32_w]
           rfl
          refine take_ (i := 7) (N := some 94) (v := ?_) (a' := ?_) #[true, true, true, true, true, true, false, true, false, false, false, false, false, false, false, false, false, false, false, false, false, false, false, false, false, false, false, false, false, false, false, false, false, false, false, false, false, false] rfl rfl (take_ofW HT_.out HW_.out (by kernel_rfl)) (fun _ _ _ h => h) (Or.inl ⟨by rfl, ?_⟩) hHeld ?_ ?_
          rotate_left
          ·
           rintro w' ⟨s0, s1, s2, s3, s4, s5, s6, s7, s8⟩
           go_simp
           with_reducible rfl
          rotate_left
          ·
           simp only [Act.put, List.setIfInBounds_toArray, List.set_cons_zero, List.set_cons_succ, i64_w, i32_w]
           rfl
          refine take_ (i := 9) (N := some 96) (v := ?_) (a' := ?_) #[true, true, true, true, true, true, false, true, false, true, false, false, false, false, false, false, false, false, false, false, false, false, false, false, false, false, false, false, false, false, false, false, false, false, false, false, false, false] rfl rfl (take_ofW HT_.out HW_.out (by kernel_rfl)) (fun _ _ _ h => h) (Or.inl ⟨by rfl, ?_⟩) hHeld ?_ ?_
          rotate_left
          ·
           rintro w' ⟨s0, s1, s2, s3, s4, s5, s6, s7, s8⟩
           go_simp
           with_reducible rfl
          rotate_left
          ·
           simp only [Act.put, List.setIfInBounds_toArray, List.set_cons_zero, List.set_cons_succ, i64_w, i32_w]
           rfl
          refine one_ (i := 6) (N := some 93) #[true, true, true, true, true, true, true, true, false, true, false, false, false, false, false, false, false, false, false, false, false, false, false, false, false, false, false, false, false, false, false, false, false, false, false, false, false, false] rfl rfl (one_of HT_.out (by kernel_rfl)) (by decide) (fun K hK => ?_)
          refine goes_ Try.func23 (by kernel_rfl) rfl #[.agg #[.int .i64 a0_0, .int .i64 a0_1, .bool a0_2], .agg #[.int .i64 a1_0, .int .i64 a1_1, .bool a1_2]] (by rfl) rfl rfl (by (try simp only [List.map_toArray, List.map_cons, List.map_nil]); first | done | rfl | (simp only [List.length_drop, List.length_take]; rfl)) ?_
          with_reducible refine (frac_Frac_Mul.calls kj3 a0_0 a0_1 a0_2 a1_0 a1_1 a1_2 t464 t465 t466 _ A106.out).mono ?_
          rintro e w120 ⟨rfl, hb⟩
          refine ⟨_, rfl, ?_⟩
          have n0_ := Aside0.mk (blk_below (g := gb397) (o := .cells #[.int .i64 a0_0, .int .i64 a0_1, .bool a0_2] 23 (0, 0)) (by (with_reducible repeat (first | refine blk_drewN ?_ _ | refine blk_drew ?_ | refine blk_alloc ?_ _)); exact BK397.out) hb)
          have n1_ := Aside0.mk (blk_below (g := gb398) (o := .cells #[.int .i64 a1_0, .int .i64 a1_1, .bool a1_2] 23 (0, 0)) (by (with_reducible repeat (first | refine blk_drewN ?_ _ | refine blk_drew ?_ | refine blk_alloc ?_ _)); exact BK398.out) hb)
          have n2_ := Aside0.mk (blk_below (g := gb399) (o := .cells #[.int .i64 a2_0, .int .i64 a2_1, .bool a2_2] 23 (0, 0)) (by (with_reducible repeat (first | refine blk_drewN ?_ _ | refine blk_drew ?_ | refine blk_alloc ?_ _)); exact BK399.out) hb)
          have n3_ := Aside0.mk (below_step (by repeat (first | (with_reducible first | exact HB.out | apply below_alloc | apply pw_below_drewN | apply below_drew1 | refine below_set ?_ GE397.out | refine below_set ?_ GE398.out | refine below_set ?_ GE399.out) | exact HB.out)) hb)
          clear BK397
          clear BK398
          clear BK399
          clear HB
          have BK397 := n0_
          have BK398 := n1_
          have BK399 := n2_
          have HB := n3_
          clear n0_ n1_ n2_ n3_
          (try clear hb)
          (try clear hb2)
          (try clear hk)
          (try clear hi)
          refine hK.out _ _ ⟨(blk_cell BK398.out 0).trans rfl, (blk_cell BK398.out 1).trans rfl, (blk_cell BK398.out 2).trans rfl, (blk_cell BK397.out 0).trans rfl, (blk_cell BK397.out 1).trans rfl, (blk_cell BK397.out 2).trans rfl, (blk_cell BK399.out 0).trans rfl, (blk_cell BK399.out 1).trans rfl, (blk_cell BK399.out 2).trans rfl⟩ (fun hHeld => ?_)
          clear hK K
          refine norm_ (a' := ?_) ?_ ?_
          rotate_left
          ·
           show Act.put _ (some 93) _ = _
           simp only [Act.put, List.setIfInBounds_toArray, List.set_cons_zero, List.set_cons_succ, i64_w, i32_w]
           rfl
          refine one_ (i := 8) (N := some 95) #[true, true, true, true, true, true, true, true, true, true, false, false, false, false, false, false, false, false, false, false, false, false, false, false, false, false, false, false, false, false, false, false, false, false, false, false, false, false] rfl rfl (one_of HT_.out (by kernel_rfl)) (by decide) (fun K hK => ?_)
          refine goes_ Try.func17 (by kernel_rfl) rfl #[.agg #[.int .i64 t464, .int .i64 t465, .bool t466], .agg #[.int .i64 a1_0, .int .i64 a1_1, .bool a1_2]] (by rfl) rfl rfl (by (try simp only [List.map_toArray, List.map_cons, List.map_nil]); first | done | rfl | (simp only [List.length_drop, List.length_take]; rfl)) ?_
          with_reducible refine (frac_Frac_Div.calls kj3 t464 t465 t466 a1_0 a1_1 a1_2 t467 t468 t469 _ A107.out).mono ?_
          rintro e w121 ⟨rfl, hb⟩
          refine ⟨_, rfl, ?_⟩
          have n0_ := Aside0.mk (blk_below (g := gb397) (o := .cells #[.int .i64 a0_0, .int .i64 a0_1, .bool a0_2] 23 (0, 0)) (by (with_reducible repeat (first | refine blk_drewN ?_ _ | refine blk_drew ?_ | refine blk_alloc ?_ _)); exact BK397.out) hb)
          have n1_ := Aside0.mk (blk_below (g := gb398) (o := .cells #[.int .i64 a1_0, .int .i64 a1_1, .bool a1_2] 23 (0, 0)) (by (with_reducible repeat (first | refine blk_drewN ?_ _ | refine blk_drew ?_ | refine blk_alloc ?_ _)); exact BK398.out) hb)
          have n2_ := Aside0.mk (blk_below (g := gb399) (o := .cells #[.int .i64 a2_0, .int .i64 a2_1, .bool a2_2] 23 (0, 0)) (by (with_reducible repeat (first | refine blk_drewN ?_ _ | refine blk_drew ?_ | refine blk_alloc ?_ _)); exact BK399.out) hb)
          have n3_ := Aside0.mk (below_step (by repeat (first | (with_reducible first | exact HB.out | apply below_alloc | apply pw_below_drewN | apply below_drew1 | refine below_set ?_ GE397.out | refine below_set ?_ GE398.out | refine below_set ?_ GE399.out) | exact HB.out)) hb)
          clear BK397
          clear BK398
          clear BK399
          clear HB
          have BK397 := n0_
          have BK398 := n1_
          have BK399 := n2_
          have HB := n3_
          clear n0_ n1_ n2_ n3_
          (try clear hb)
          (try clear hb2)
          (try clear hk)
          (try clear hi)
          refine hK.out _ _ ⟨(blk_cell BK398.out 0).trans rfl, (blk_cell BK398.out 1).trans rfl, (blk_cell BK398.out 2).trans rfl, (blk_cell BK397.out 0).trans rfl, (blk_cell BK397.out 1).trans rfl, (blk_cell BK397.out 2).trans rfl, (blk_cell BK399.out 0).trans rfl, (blk_cell BK399.out 1).trans rfl, (blk_cell BK399.out 2).trans rfl⟩ (fun hHeld => ?_)
          clear hK K
          refine norm_ (a' := ?_) ?_ ?_
          rotate_left
          ·
           show Act.put _ (some 95) _ = _
           simp only [Act.put, List.setIfInBounds_toArray, List.set_cons_zero, List.set_cons_succ, i64_w, i32_w]
           rfl
          refine pure_ (i := 10) (N := some 97) (v := ?_) (a' := ?_) #[true, true, true, true, true, true, true, true, true, true, true, false, false, false, false, false, false, false, false, false, false, false, false, false, false, false, false, false, false, false, false, false, false, false, false, false, false, false] rfl rfl (any_of HT_.out (by kernel_rfl)) (fun _ _ _ h => h) (Or.inl ⟨by rfl, ?_⟩) ?_ ?_
          rotate_left
          ·
           intro w'
           go_simp
           with_reducible rfl
          rotate_left
          ·
           simp only [Act.put, List.setIfInBounds_toArray, List.set_cons_zero, List.set_cons_succ, i64_w, i32_w]
           rfl
          refine pure_ (i := 11) (N := some 98) (v := ?_) (a' := ?_) #[true, true, true, true, true, true, true, true, true, true, true, true, false, false, false, false, false, false, false, false, false, false, false, false, false, false, false, false, false, false, false, false, false, false, false, false, false, false] rfl rfl (any_of HT_.out (by kernel_rfl)) (fun _ _ _ h => h) (Or.inl ⟨by rfl, ?_⟩) ?_ ?_
          rotate_left
          ·
           intro w'
           go_simp
           with_reducible rfl
          rotate_left
          ·
           simp only [Act.put, List.setIfInBounds_toArray, List.set_cons_zero, List.set_cons_succ, i64_w, i32_w]
           rfl
          refine pure_ (i := 12) (N := some 99) (v := ?_) (a' := ?_) #[true, true, true, true, true, true, true, true, true, true, true, true, true, false, false, false, false, false, false, false, false, false, false, false, false, false, false, false, false, false, false, false, false, false, false, false, false, false] rfl rfl (any_of HT_.out (by kernel_rfl)) (fun _ _ _ h => h) (Or.inl ⟨by rfl, ?_⟩) ?_ ?_
          rotate_left
          ·
           intro w'
           go_simp
           with_reducible rfl
          rotate_left
          ·
           simp only [Act.put, List.setIfInBounds_toArray, List.set_cons_zero, List.set_cons_succ, i64_w, i32_w]
           rfl
          refine take_ (i := 13) (N := some 100) (v := ?_) (a' := ?_) #[true, true, true, true, true, true, true, true, true, true, true, true, true, true, false, false, false, false, false, false, false, false, false, false, false, false, false, false, false, false, false, false, false, false, false, false, false, false] rfl rfl (take_ofW HT_.out HW_.out (by kernel_rfl)) (fun _ _ _ h => h) (Or.inl ⟨by rfl, ?_⟩) hHeld ?_ ?_
          rotate_left
          ·
           rintro w' ⟨s0, s1, s2, s3, s4, s5, s6, s7, s8⟩
           go_simp
           with_reducible rfl
          rotate_left
          ·
           simp only [Act.put, List.setIfInBounds_toArray, List.set_cons_zero, List.set_cons_succ, i64_w, i32_w]
           rfl
          refine take_ (i := 14) (N := some 101) (v := ?_) (a' := ?_) #[true, true, true, true, true, true, true, true, true, true, true, true, true, true, true, false, false, false, false, false, false, false, false, false, false, false, false, false, false, false, false, false, false, false, false, false, false, false] rfl rfl (take_ofW HT_.out HW_.out (by kernel_rfl)) (fun _ _ _ h => h) (Or.inl ⟨by rfl, ?_⟩) hHeld ?_ ?_
          rotate_left
          ·
           rintro w' ⟨s0, s1, s2, s3, s4, s5, s6, s7, s8⟩
           go_simp
           with_reducible rfl
          rotate_left
          ·
           simp only [Act.put, List.setIfInBounds_toArray, List.set_cons_zero, List.set_cons_succ, i64_w, i32_w]
           rfl
          refine take_ (i := 15) (N := some 102) (v := ?_) (a' := ?_) #[true, true, true, true, true, true, true, true, true, true, true, true, true, true, true, true, false, false, false, false, false, false, false, false, false, false, false, false, false, false, false, false, false, false, false, false, false, false] rfl rfl (take_ofW HT_.out HW_.out (by kernel_rfl)) (fun _ _ _ h => h) (Or.inl ⟨by rfl, ?_⟩) hHeld ?_ ?_
          rotate_left
          ·
           rintro w' ⟨s0, s1, s2, s3, s4, s5, s6, s7, s8⟩
           go_simp
           with_reducible rfl
          rotate_left
          ·
           simp only [Act.put, List.setIfInBounds_toArray, List.set_cons_zero, List.set_cons_succ, i64_w, i32_w]
           rfl
          refine take_ (i := 18) (N := some 105) (v := ?_) (a' := ?_) #[true, true, true, true, true, true, true, true, true, true, true, true, true, true, true, true, false, false, true, false, false, false, false, false, false, false, false, false, false, false, false, false, false, false, false, false, false, false] rfl rfl (take_ofW HT_.out HW_.out (by kernel_rfl)) (fun _ _ _ h => h) (Or.inl ⟨by rfl, ?_⟩) hHeld ?_ ?_
          rotate_left
          ·
           rintro w' ⟨s0, s1, s2, s3, s4, s5, s6, s7, s8⟩
           go_simp
           with_reducible rfl
          rotate_left
          ·
           simp only [Act.put, List.setIfInBounds_toArray, List.set_cons_zero, List.set_cons_succ, i64_w, i32_w]
           rfl
          refine take_ (i := 19) (N := some 106) (v := ?_) (a' := ?_) #[true, true, true, true, true, true, true, true, true, true, true, true, true, true, true, true, false, false, true, true, false, false, false, false, false, false, false, false, false, false, false, false, false, false, false, false, false, false] rfl rfl (take_ofW HT_.out HW_.out (by kernel_rfl)) (fun _ _ _ h => h) (Or.inl ⟨by rfl, ?_⟩) hHeld ?_ ?_
          rotate_left
          ·
           rintro w' ⟨s0, s1, s2, s3, s4, s5, s6, s7, s8⟩
           go_simp
           with_reducible rfl
          rotate_left
          ·
           simp only [Act.put, List.setIfInBounds_toArray, List.set_cons_zero, List.set_cons_succ, i64_w, i32_w]
           rfl
          refine take_ (i := 21) (N := some 108) (v := ?_) (a' := ?_) #[true, true, true, true, true, true, true, true, true, true, true, true, true, true, true, true, false, false, true, true, false, true, false, false, false, false, false, false, false, false, false, false, false, false, false, false, false, false] rfl rfl (take_ofW HT_.out HW_.out (by kernel_rfl)) (fun _ _ _ h => h) (Or.inl ⟨by rfl, ?_⟩) hHeld ?_ ?_
          rotate_left
          ·
           rintro w' ⟨s0, s1, s2, s3, s4, s5, s6, s7, s8⟩
           go_simp
           with_reducible rfl
          rotate_left
          ·
           simp only [Act.put, List.setIfInBounds_toArray, List.set_cons_zero, List.set_cons_succ, i64_w, i32_w]
           rfl
          refine take_ (i := 22) (N := some 109) (v := ?_) (a' := ?_) #[true, true, true, true, true, true, true, true, true, true, true, true, true, true, true, true, false, false, true, true, false, true, true, false, false, false, false, false, false, false, false, false, false, false, false, false, false, false] rfl rfl (take_ofW HT_.out HW_.out (by kernel_rfl)) (fun _ _ _ h => h) (Or.inl ⟨by rfl, ?_⟩) hHeld ?_ ?_
          rotate_left
          ·
           rintro w' ⟨s0, s1, s2, s3, s4, s5, s6, s7, s8⟩
           go_simp
           with_reducible rfl
          rotate_left
          ·
           simp only [Act.put, List.setIfInBounds_toArray, List.set_cons_zero, List.set_cons_succ, i64_w, i32_w]
           rfl
          refine one_ (i := 16) (N := some 103) #[true, true, true, true, true, true, true, true, true, true, true, true, true, true, true, true, true, false, true, true, false, true, true, false, false, false, false, false, false, false, false, false, false, false, false, false, false, false] rfl rfl (one_of HT_.out (by kernel_rfl)) (by decide) (fun K hK => ?_)
          refine goes_ Try.func24 (by kernel_rfl) rfl #[.agg #[.int .i64 a1_0, .int .i64 a1_1, .bool a1_2], .agg #[.int .i64 a2_0, .int .i64 a2_1, .bool a2_2]] (by rfl) rfl rfl (by (try simp only [List.map_toArray, List.map_cons, List.map_nil]); first | done | rfl | (simp only [List.length_drop, List.length_take]; rfl)) ?_
          with_reducible refine (frac_Frac_Add.calls kj3 a1_0 a1_1 a1_2 a2_0 a2_1 a2_2 t470 t471 t472 _ A109.out).mono ?_
          rintro e w122 ⟨rfl, hb⟩
          refine ⟨_, rfl, ?_⟩
          have n0_ := Aside0.mk (blk_below (g := gb397) (o := .cells #[.int .i64 a0_0, .int .i64 a0_1, .bool a0_2] 23 (0, 0)) (by (with_reducible repeat (first | refine blk_drewN ?_ _ | refine blk_drew ?_ | refine blk_alloc ?_ _)); exact BK397.out) hb)
          have n1_ := Aside0.mk (blk_below (g := gb398) (o := .cells #[.int .i64 a1_0, .int .i64 a1_1, .bool a1_2] 23 (0, 0)) (by (with_reducible repeat (first | refine blk_drewN ?_ _ | refine blk_drew ?_ | refine blk_alloc ?_ _)); exact BK398.out) hb)
          have n2_ := Aside0.mk (blk_below (g := gb399) (o := .cells #[.int .i64 a2_0, .int .i64 a2_1, .bool a2_2] 23 (0, 0)) (by (with_reducible repeat (first | refine blk_drewN ?_ _ | refine blk_drew ?_ | refine blk_alloc ?_ _)); exact BK399.out) hb)
          have n3_ := Aside0.mk (below_step (by repeat (first | (with_reducible first | exact HB.out | apply below_alloc | apply pw_below_drewN | apply below_drew1 | refine below_set ?_ GE397.out | refine below_set ?_ GE398.out | refine below_set ?_ GE399.out) | exact HB.out)) hb)
          clear BK397
          clear BK398
          clear BK399
          clear HB
          have BK397 := n0_
          have BK398 := n1_
          have BK399 := n2_
          have HB := n3_
          clear n0_ n1_ n2_ n3_
          (try clear hb)
          (try clear hb2)
          (try clear hk)
          (try clear hi)
          refine hK.out _ _ ⟨(blk_cell BK398.out 0).trans rfl, (blk_cell BK398.out 1).trans rfl, (blk_cell BK398.out 2).trans rfl, (blk_cell BK397.out 0).trans rfl, (blk_cell BK397.out 1).trans rfl, (blk_cell BK397.out 2).trans rfl, (blk_cell BK399.out 0).trans rfl, (blk_cell BK399.out 1).trans rfl, (blk_cell BK399.out 2).trans rfl⟩ (fun hHeld => ?_)
          clear hK K
          refine norm_ (a' := ?_) ?_ ?_
          rotate_left
          ·
           show Act.put _ (some 103) _ = _
           simp only [Act.put, List.setIfInBounds_toArray, List.set_cons_zero, List.set_cons_succ, i64_w, i32_w]
           rfl
          refine one_ (i := 17) (N := some 104) #[true, true, true, true, true, true, true, true, true, true, true, true, true, true, true, true, true, true, true, true, false, true, true, false, false, false, false, false, false, false, false, false, false, false, false, false, false, false] rfl rfl (one_of HT_.out (by kernel_rfl)) (by decide) (fun K hK => ?_)
          refine goes_ Try.func23 (by kernel_rfl) rfl #[.agg #[.int .i64 a0_0, .int .i64 a0_1, .bool a0_2], .agg #[.int .i64 t470, .int .i64 t471, .bool t472]] (by rfl) rfl rfl (by (try simp only [List.map_toArray, List.map_cons, List.map_nil]); first | done | rfl | (simp only [List.length_drop, List.length_take]; rfl)) ?_
          with_reducible refine (frac_Frac_Mul.calls kj3 a0_0 a0_1 a0_2 t470 t471 t472 t473 t474 t475 _ A110.out).mono ?_
          rintro e w123 ⟨rfl, hb⟩
          refine ⟨_, rfl, ?_⟩
          have n0_ := Aside0.mk (blk_below (g := gb397) (o := .cells #[.int .i64 a0_0, .int .i64 a0_1, .bool a0_2] 23 (0, 0)) (by (with_reducible repeat (first | refine blk_drewN ?_ _ | refine blk_drew ?_ | refine blk_alloc ?_ _)); exact BK397.out) hb)
          have n1_ := Aside0.mk (blk_below (g := gb398) (o := .cells #[.int .i64 a1_0, .int .i64 a1_1, .bool a1_2] 23 (0, 0)) (by (with_reducible repeat (first | refine blk_drewN ?_ _ | refine blk_drew ?_ | refine blk_alloc ?_ _)); exact BK398.out) hb)
          have n2_ := Aside0.mk (blk_below (g := gb399) (o := .cells #[.int .i64 a2_0, .int .i64 a2_1, .bool a2_2] 23 (0, 0)) (by (with_reducible repeat (first | refine blk_drewN ?_ _ | refine blk_drew ?_ | refine blk_alloc ?_ _)); exact BK399.out) hb)
          have n3_ := Aside0.mk (below_step (by repeat (first | (with_reducible first | exact HB.out | apply below_alloc | apply pw_below_drewN | apply below_drew1 | refine below_set ?_ GE397.out | refine below_set ?_ GE398.out | refine below_set ?_ GE399.out) | exact HB.out)) hb)
          clear BK397
          clear BK398
          clear BK399
          clear HB
          have BK397 := n0_
          have BK398 := n1_
          have BK399 := n2_
          have HB := n3_
          clear n0_ n1_ n2_ n3_
          (try clear hb)
          (try clear hb2)
          (try clear hk)
          (try clear hi)
          refine hK.out _ _ ⟨(blk_cell BK398.out 0).trans rfl, (blk_cell BK398.out 1).trans rfl, (blk_cell BK398.out 2).trans rfl, (blk_cell BK397.out 0).trans rfl, (blk_cell BK397.out 1).trans rfl, (blk_cell BK397.out 2).trans rfl, (blk_cell BK399.out 0).trans rfl, (blk_cell BK399.out 1).trans rfl, (blk_cell BK399.out 2).trans rfl⟩ (fun hHeld => ?_)
          clear hK K
          refine norm_ (a' := ?_) ?_ ?_
          rotate_left
          ·
           show Act.put _ (some 104) _ = _
           simp only [Act.put, List.setIfInBounds_toArray, List.set_cons_zero, List.set_cons_succ, i64_w, i32_w]
           rfl
          refine one_ (i := 20) (N := some 107) #[true, true, true, true, true, true, true, true, true, true, true, true, true, true, true, true, true, true, true, true, true, true, true, false, false, false, false, false, false, false, false, false, false, false, false, false, false, false] rfl rfl (one_of HT_.out (by kernel_rfl)) (by decide) (fun K hK => ?_)
          refine goes_ Try.func23 (by kernel_rfl) rfl #[.agg #[.int .i64 a0_0, .int .i64 a0_1, .bool a0_2], .agg #[.int .i64 a1_0, .int .i64 a1_1, .bool a1_2]] (by rfl) rfl rfl (by (try simp only [List.map_toArray, List.map_cons, List.map_nil]); first | done | rfl | (simp only [List.length_drop, List.length_take]; rfl)) ?_
          with_reducible refine (frac_Frac_Mul.calls kj3 a0_0 a0_1 a0_2 a1_0 a1_1 a1_2 t464 t465 t466 _ A111.out).mono ?_
          rintro e w124 ⟨rfl, hb⟩
          refine ⟨_, rfl, ?_⟩
          have n0_ := Aside0.mk (blk_below (g := gb397) (o := .cells #[.int .i64 a0_0, .int .i64 a0_1, .bool a0_2] 23 (0, 0)) (by (with_reducible repeat (first | refine blk_drewN ?_ _ | refine blk_drew ?_ | refine blk_alloc ?_ _)); exact BK397.out) hb)
          have n1_ := Aside0.mk (blk_below (g := gb398) (o := .cells #[.int .i64 a1_0, .int .i64 a1_1, .bool a1_2] 23 (0, 0)) (by (with_reducible repeat (first | refine blk_drewN ?_ _ | refine blk_drew ?_ | refine blk_alloc ?_ _)); exact BK398.out) hb)
          have n2_ := Aside0.mk (blk_below (g := gb399) (o := .cells #[.int .i64 a2_0, .int .i64 a2_1, .bool a2_2] 23 (0, 0)) (by (with_reducible repeat (first | refine blk_drewN ?_ _ | refine blk_drew ?_ | refine blk_alloc ?_ _)); exact BK399.out) hb)
          have n3_ := Aside0.mk (below_step (by repeat (first | (with_reducible first | exact HB.out | apply below_alloc | apply pw_below_drewN | apply below_drew1 | refine below_set ?_ GE397.out | refine below_set ?_ GE398.out | refine below_set ?_ GE399.out) | exact HB.out)) hb)
          clear BK397
          clear BK398
          clear BK399
          clear HB
          have BK397 := n0_
          have BK398 := n1_
          have BK399 := n2_
          have HB := n3_
          clear n0_ n1_ n2_ n3_
          (try clear hb)
          (try clear hb2)
          (try clear hk)
          (try clear hi)
          refine hK.out _ _ ⟨(blk_cell BK398.out 0).trans rfl, (blk_cell BK398.out 1).trans rfl, (blk_cell BK398.out 2).trans rfl, (blk_cell BK397.out 0).trans rfl, (blk_cell BK397.out 1).trans rfl, (blk_cell BK397.out 2).trans rfl, (blk_cell BK399.out 0).trans rfl, (blk_cell BK399.out 1).trans rfl, (blk_cell BK399.out 2).trans rfl⟩ (fun hHeld => ?_)
          clear hK K
          refine norm_ (a' := ?_) ?_ ?_
          rotate_left
          ·
           show Act.put _ (some 107) _ = _
           simp only [Act.put, List.setIfInBounds_toArray, List.set_cons_zero, List.set_cons_succ, i64_w, i32_w]
           rfl
          refine one_ (i := 23) (N := some 110) #[true, true, true, true, true, true, true, true, true, true, true, true, true, true, true, true, true, true, true, true, true, true, true, true, false, false, false, false, false, false, false, false, false, false, false, false, false, false] rfl rfl (one_of HT_.out (by kernel_rfl)) (by decide) (fun K hK => ?_)
          refine goes_ Try.func23 (by kernel_rfl) rfl #[.agg #[.int .i64 a0_0, .int .i64 a0_1, .bool a0_2], .agg #[.int .i64 a2_0, .int .i64 a2_1, .bool a2_2]] (by rfl) rfl rfl (by (try simp only [List.map_toArray, List.map_cons, List.map_nil]); first | done | rfl | (simp only [List.length_drop, List.length_take]; rfl)) ?_
          with_reducible refine (frac_Frac_Mul.calls kj3 a0_0 a0_1 a0_2 a2_0 a2_1 a2_2 t479 t480 t481 _ A112.out).mono ?_
          rintro e w125 ⟨rfl, hb⟩
          refine ⟨_, rfl, ?_⟩
          have n0_ := Aside0.mk (blk_below (g := gb397) (o := .cells #[.int .i64 a0_0, .int .i64 a0_1, .bool a0_2] 23 (0, 0)) (by (with_reducible repeat (first | refine blk_drewN ?_ _ | refine blk_drew ?_ | refine blk_alloc ?_ _)); exact BK397.out) hb)
          have n1_ := Aside0.mk (blk_below (g := gb398) (o := .cells #[.int .i64 a1_0, .int .i64 a1_1, .bool a1_2] 23 (0, 0)) (by (with_reducible repeat (first | refine blk_drewN ?_ _ | refine blk_drew ?_ | refine blk_alloc ?_ _)); exact BK398.out) hb)
          have n2_ := Aside0.mk (blk_below (g := gb399) (o := .cells #[.int .i64 a2_0, .int .i64 a2_1, .bool a2_2] 23 (0, 0)) (by (with_reducible repeat (first | refine blk_drewN ?_ _ | refine blk_drew ?_ | refine blk_alloc ?_ _)); exact BK399.out) hb)
          have n3_ := Aside0.mk (below_step (by repeat (first | (with_reducible first | exact HB.out | apply below_alloc | apply pw_below_drewN | apply below_drew1 | refine below_set ?_ GE397.out | refine below_set ?_ GE398.out | refine below_set ?_ GE399.out) | exact HB.out)) hb)
          clear BK397
          clear BK398
          clear BK399
          clear HB
          have BK397 := n0_
          have BK398 := n1_
          have BK399 := n2_
          have HB := n3_
          clear n0_ n1_ n2_ n3_
          (try clear hb)
          (try clear hb2)
          (try clear hk)
          (try clear hi)
          refine hK.out _ _ ⟨(blk_cell BK398.out 0).trans rfl, (blk_cell BK398.out 1).trans rfl, (blk_cell BK398.out 2).trans rfl, (blk_cell BK397.out 0).trans rfl, (blk_cell BK397.out 1).trans rfl, (blk_cell BK397.out 2).trans rfl, (blk_cell BK399.out 0).trans rfl, (blk_cell BK399.out 1).trans rfl, (blk_cell BK399.out 2).trans rfl⟩ (fun hHeld => ?_)
          clear hK K
          refine norm_ (a' := ?_) ?_ ?_
          rotate_left
          ·
           show Act.put _ (some 110) _ = _
           simp only [Act.put, List.setIfInBounds_toArray, List.set_cons_zero, List.set_cons_succ, i64_w, i32_w]
           rfl
          refine one_ (i := 24) (N := some 111) #[true, true, true, true, true, true, true, true, true, true, true, true, true, true, true, true, true, true, true, true, true, true, true, true, true, false, false, false, false, false, false, false, false, false, false, false, false, false] rfl rfl (one_of HT_.out (by kernel_rfl)) (by decide) (fun K hK => ?_)
          refine goes_ Try.func24 (by kernel_rfl) rfl #[.agg #[.int .i64 t464, .int .i64 t465, .bool t466], .agg #[.int .i64 t479, .int .i64 t480, .bool t481]] (by rfl) rfl rfl (by (try simp only [List.map_toArray, List.map_cons, List.map_nil]); first | done | rfl | (simp only [List.length_drop, List.length_take]; rfl)) ?_
          with_reducible refine (frac_Frac_Add.calls kj3 t464 t465 t466 t479 t480 t481 t473 t474 t475 _ A113.out).mono ?_
          rintro e w126 ⟨rfl, hb⟩
          refine ⟨_, rfl, ?_⟩
          have n0_ := Aside0.mk (blk_below (g := gb397) (o := .cells #[.int .i64 a0_0, .int .i64 a0_1, .bool a0_2] 23 (0, 0)) (by (with_reducible repeat (first | refine blk_drewN ?_ _ | refine blk_drew ?_ | refine blk_alloc ?_ _)); exact BK397.out) hb)
          have n1_ := Aside0.mk (blk_below (g := gb398) (o := .cells #[.int .i64 a1_0, .int .i64 a1_1, .bool a1_2] 23 (0, 0)) (by (with_reducible repeat (first | refine blk_drewN ?_ _ | refine blk_drew ?_ | refine blk_alloc ?_ _)); exact BK398.out) hb)
          have n2_ := Aside0.mk (blk_below (g := gb399) (o := .cells #[.int .i64 a2_0, .int .i64 a2_1, .bool a2_2] 23 (0, 0)) (by (with_reducible repeat (first | refine blk_drewN ?_ _ | refine blk_drew ?_ | refine blk_alloc ?_ _)); exact BK399.out) hb)
          have n3_ := Aside0.mk (below_step (by repeat (first | (with_reducible first | exact HB.out | apply below_alloc | apply pw_below_drewN | apply below_drew1 | refine below_set ?_ GE397.out | refine below_set ?_ GE398.out | refine below_set ?_ GE399.out) | exact HB.out)) hb)
          clear BK397
          clear BK398
          clear BK399
          clear HB
          have BK397 := n0_
          have BK398 := n1_
          have BK399 := n2_
          have HB := n3_
          clear n0_ n1_ n2_ n3_
          (try clear hb)
          (try clear hb2)
          (try clear hk)
          (try clear hi)
          refine hK.out _ _ ⟨(blk_cell BK398.out 0).trans rfl, (blk_cell BK398.out 1).trans rfl, (blk_cell BK398.out 2).trans rfl, (blk_cell BK397.out 0).trans rfl, (blk_cell BK397.out 1).trans rfl, (blk_cell BK397.out 2).trans rfl, (blk_cell BK399.out 0).trans rfl, (blk_cell BK399.out 1).trans rfl, (blk_cell BK399.out 2).trans rfl⟩ (fun hHeld => ?_)
          clear hK K
          refine norm_ (a' := ?_) ?_ ?_
          rotate_left
          ·
           show Act.put _ (some 111) _ = _
           simp only [Act.put, List.setIfInBounds_toArray, List.set_cons_zero, List.set_cons_succ, i64_w, i32_w]
           rfl
          refine pure_ (i := 25) (N := some 112) (v := ?_) (a' := ?_) #[true, true, true, true, true, true, true, true, true, true, true, true, true, true, true, true, true, true, true, true, true, true, true, true, true, true, false, false, false, false, false, false, false, false, false, false, false, false] rfl rfl (any_of HT_.out (by kernel_rfl)) (fun _ _ _ h => h) (Or.inl ⟨by rfl, ?_⟩) ?_ ?_
          rotate_left
          ·
           intro w'
           go_simp
           with_reducible rfl
          rotate_left
          ·
           simp only [Act.put, List.setIfInBounds_toArray, List.set_cons_zero, List.set_cons_succ, i64_w, i32_w]
           rfl
          refine pure_ (i := 26) (N := some 113) (v := ?_) (a' := ?_) #[true, true, true, true, true, true, true, true, true, true, true, true, true, true, true, true, true, true, true, true, true, true, true, true, true, true, true, false, false, false, false, false, false, false, false, false, false, false] rfl rfl (any_of HT_.out (by kernel_rfl)) (fun _ _ _ h => h) (Or.inl ⟨by rfl, ?_⟩) ?_ ?_
          rotate_left
          ·
           intro w'
           go_simp
           with_reducible rfl
          rotate_left
          ·
           simp only [Act.put, List.setIfInBounds_toArray, List.set_cons_zero, List.set_cons_succ, i64_w, i32_w]
           rfl
          refine pure_ (i := 27) (N := some 114) (v := ?_) (a' := ?_) #[true, true, true, true, true, true, true, true, true, true, true, true, true, true, true, true, true, true, true, true, true, true, true, true, true, true, true, true, false, false, false, false, false, false, false, false, false, false] rfl rfl (any_of HT_.out (by kernel_rfl)) (fun _ _ _ h => h) (Or.inl ⟨by rfl, ?_⟩) ?_ ?_
          rotate_left
          ·
           intro w'
           go_simp
           with_reducible rfl
          rotate_left
          ·
           simp only [Act.put, List.setIfInBounds_toArray, List.set_cons_zero, List.set_cons_succ, i64_w, i32_w]
           rfl
          refine take_ (i := 28) (N := some 115) (v := ?_) (a' := ?_) #[true, true, true, true, true, true, true, true, true, true, true, true, true, true, true, true, true, true, true, true, true, true, true, true, true, true, true, true, true, false, false, false, false, false, false, false, false, false] rfl rfl (take_ofW HT_.out HW_.out (by kernel_rfl)) (fun _ _ _ h => h) (Or.inl ⟨by rfl, ?_⟩) hHeld ?_ ?_
          rotate_left
          ·
           rintro w' ⟨s0, s1, s2, s3, s4, s5, s6, s7, s8⟩
           go_simp
           with_reducible rfl
          rotate_left
          ·
           simp only [Act.put, List.setIfInBounds_toArray, List.set_cons_zero, List.set_cons_succ, i64_w, i32_w]
           rfl
          refine take_ (i := 31) (N := some 118) (v := ?_) (a' := ?_) #[true, true, true, true, true, true, true, true, true, true, true, true, true, true, true, true, true, true, true, true, true, true, true, true, true, true, true, true, true, false, false, true, false, false, false, false, false, false] rfl rfl (take_ofW HT_.out HW_.out (by kernel_rfl)) (fun _ _ _ h => h) (Or.inl ⟨by rfl, ?_⟩) hHeld ?_ ?_
          rotate_left
          ·
           rintro w' ⟨s0, s1, s2, s3, s4, s5, s6, s7, s8⟩
           go_simp
           with_reducible rfl
          rotate_left
          ·
           simp only [Act.put, List.setIfInBounds_toArray, List.set_cons_zero, List.set_cons_succ, i64_w, i32_w]
           rfl
          refine one_ (i := 29) (N := some 116) #[true, true, true, true, true, true, true, true, true, true, true, true, true, true, true, true, true, true, true, true, true, true, true, true, true, true, true, true, true, true, false, true, false, false, false, false, false, false] rfl rfl (one_of HT_.out (by kernel_rfl)) (by decide) (fun K hK => ?_)
          refine goes_ Try.func18 (by kernel_rfl) rfl #[.agg #[.int .i64 a0_0, .int .i64 a0_1, .bool a0_2]] (by rfl) rfl rfl (by (try simp only [List.map_toArray, List.map_cons, List.map_nil]); first | done | rfl | (simp only [List.length_drop, List.length_take]; rfl)) ?_
          with_reducible refine (frac_Frac_Neg.calls kj3 a0_0 a0_1 a0_2 t485 t486 t487 _ A115.out).mono ?_
          rintro e w127 ⟨rfl, hb⟩
          refine ⟨_, rfl, ?_⟩
          have n0_ := Aside0.mk (blk_below (g := gb397) (o := .cells #[.int .i64 a0_0, .int .i64 a0_1, .bool a0_2] 23 (0, 0)) (by (with_reducible repeat (first | refine blk_drewN ?_ _ | refine blk_drew ?_ | refine blk_alloc ?_ _)); exact BK397.out) hb)
          have n1_ := Aside0.mk (blk_below (g := gb398) (o := .cells #[.int .i64 a1_0, .int .i64 a1_1, .bool a1_2] 23 (0, 0)) (by (with_reducible repeat (first | refine blk_drewN ?_ _ | refine blk_drew ?_ | refine blk_alloc ?_ _)); exact BK398.out) hb)
          have n2_ := Aside0.mk (blk_below (g := gb399) (o := .cells #[.int .i64 a2_0, .int .i64 a2_1, .bool a2_2] 23 (0, 0)) (by (with_reducible repeat (first | refine blk_drewN ?_ _ | refine blk_drew ?_ | refine blk_alloc ?_ _)); exact BK399.out) hb)
          have n3_ := Aside0.mk (below_step (by repeat (first | (with_reducible first | exact HB.out | apply below_alloc | apply pw_below_drewN | apply below_drew1 | refine below_set ?_ GE397.out | refine below_set ?_ GE398.out | refine below_set ?_ GE399.out) | exact HB.out)) hb)
          clear BK397
          clear BK398
          clear BK399
          clear HB
          have BK397 := n0_
          have BK398 := n1_
          have BK399 := n2_
          have HB := n3_
          clear n0_ n1_ n2_ n3_
          (try clear hb)
          (try clear hb2)
          (try clear hk)
          (try clear hi)
          refine hK.out _ _ ⟨(blk_cell BK398.out 0).trans rfl, (blk_cell BK398.out 1).trans rfl, (blk_cell BK398.out 2).trans rfl, (blk_cell BK397.out 0).trans rfl, (blk_cell BK397.out 1).trans rfl, (blk_cell BK397.out 2).trans rfl, (blk_cell BK399.out 0).trans rfl, (blk_cell BK399.out 1).trans rfl, (blk_cell BK399.out 2).trans rfl⟩ (fun hHeld => ?_)
          clear hK K
          refine norm_ (a' := ?_) ?_ ?_
          rotate_left
          ·
           show Act.put _ (some 116) _ = _
           simp only [Act.put, List.setIfInBounds_toArray, List.set_cons_zero, List.set_cons_succ, i64_w, i32_w]
           rfl
          refine one_ (i := 30) (N := some 117) #[true, true, true, true, true, true, true, true, true, true, true, true, true, true, true, true, true, true, true, true, true, true, true, true, true, true, true, true, true, true, true, true, false, false, false, false, false, false] rfl rfl (one_of HT_.out (by kernel_rfl)) (by decide) (fun K hK => ?_)
          refine goes_ Try.func18 (by kernel_rfl) rfl #[.agg #[.int .i64 t485, .int .i64 t486, .bool t487]] (by rfl) rfl rfl (by (try simp only [List.map_toArray, List.map_cons, List.map_nil]); first | done | rfl | (simp only [List.length_drop, List.length_take]; rfl)) ?_
          with_reducible refine (frac_Frac_Neg.calls kj3 t485 t486 t487 t488 t489 t490 _ A116.out).mono ?_
          rintro e w128 ⟨rfl, hb⟩
          refine ⟨_, rfl, ?_⟩
          have n0_ := Aside0.mk (blk_below (g := gb397) (o := .cells #[.int .i64 a0_0, .int .i64 a0_1, .bool a0_2] 23 (0, 0)) (by (with_reducible repeat (first | refine blk_drewN ?_ _ | refine blk_drew ?_ | refine blk_alloc ?_ _)); exact BK397.out) hb)
          have n1_ := Aside0.mk (blk_below (g := gb398) (o := .cells #[.int .i64 a1_0, .int .i64 a1_1, .bool a1_2] 23 (0, 0)) (by (with_reducible repeat (first | refine blk_drewN ?_ _ | refine blk_drew ?_ | refine blk_alloc ?_ _)); exact BK398.out) hb)
          have n2_ := Aside0.mk (blk_below (g := gb399) (o := .cells #[.int .i64 a2_0, .int .i64 a2_1, .bool a2_2] 23 (0, 0)) (by (with_reducible repeat (first | refine blk_drewN ?_ _ | refine blk_drew ?_ | refine blk_alloc ?_ _)); exact BK399.out) hb)
          have n3_ := Aside0.mk (below_step (by repeat (first | (with_reducible first | exact HB.out | apply below_alloc | apply pw_below_drewN | apply below_drew1 | refine below_set ?_ GE397.out | refine below_set ?_ GE398.out | refine below_set ?_ GE399.out) | exact HB.out)) hb)
          clear BK397
          clear BK398
          clear BK399
          clear HB
          have BK397 := n0_
          have BK398 := n1_
          have BK399 := n2_
          have HB := n3_
          clear n0_ n1_ n2_ n3_
          (try clear hb)
          (try clear hb2)
          (try clear hk)
          (try clear hi)
          refine hK.out _ _ ⟨(blk_cell BK398.out 0).trans rfl, (blk_cell BK398.out 1).trans rfl, (blk_cell BK398.out 2).trans rfl, (blk_cell BK397.out 0).trans rfl, (blk_cell BK397.out 1).trans rfl, (blk_cell BK397.out 2).trans rfl, (blk_cell BK399.out 0).trans rfl, (blk_cell BK399.out 1).trans rfl, (blk_cell BK399.out 2).trans rfl⟩ (fun hHeld => ?_)
          clear hK K
          refine norm_ (a' := ?_) ?_ ?_
          rotate_left
          ·
           show Act.put _ (some 117) _ = _
           simp only [Act.put, List.setIfInBounds_toArray, List.set_cons_zero, List.set_cons_succ, i64_w, i32_w]
           rfl
          refine pure_ (i := 32) (N := some 119) (v := ?_) (a' := ?_) #[true, true, true, true, true, true, true, true, true, true, true, true, true, true, true, true, true, true, true, true, true, true, true, true, true, true, true, true, true, true, true, true, true, false, false, false, false, false] rfl rfl (any_of HT_.out (by kernel_rfl)) (fun _ _ _ h => h) (Or.inl ⟨by rfl, ?_⟩) ?_ ?_
          rotate_left
          ·
           intro w'
           go_simp
           with_reducible rfl
          rotate_left
          ·
           simp only [Act.put, List.setIfInBounds_toArray, List.set_cons_zero, List.set_cons_succ, i64_w, i32_w]
           rfl
          refine pure_ (i := 33) (N := some 120) (v := ?_) (a' := ?_) #[true, true, true, true, true, true, true, true, true, true, true, true, true, true, true, true, true, true, true, true, true, true, true, true, true, true, true, true, true, true, true, true, true, true, false, false, false, false] rfl rfl (any_of HT_.out (by kernel_rfl)) (fun _ _ _ h => h) (Or.inl ⟨by rfl, ?_⟩) ?_ ?_
          rotate_left
          ·
           intro w'
           go_simp
           with_reducible rfl
          rotate_left
          ·
           simp only [Act.put, List.setIfInBounds_toArray, List.set_cons_zero, List.set_cons_succ, i64_w, i32_w]
           rfl
          refine pure_ (i := 34) (N := some 121) (v := ?_) (a' := ?_) #[true, true, true, true, true, true, true, true, true, true, true, true, true, true, true, true, true, true, true, true, true, true, true, true, true, true, true, true, true, true, true, true, true, true, true, false, false, false] rfl rfl (any_of HT_.out (by kernel_rfl)) (fun _ _ _ h => h) (Or.inl ⟨by rfl, ?_⟩) ?_ ?_
          rotate_left
          ·
           intro w'
           go_simp
           with_reducible rfl
          rotate_left
          ·
           simp only [Act.put, List.setIfInBounds_toArray, List.set_cons_zero, List.set_cons_succ, i64_w, i32_w]
           rfl
          refine one_ (i := 35) (N := some 122) #[true, true, true, true, true, true, true, true, true, true, true, true, true, true, true, true, true, true, true, true, true, true, true, true, true, true, true, true, true, true, true, true, true, true, true, true, false, false] rfl rfl (one_of HT_.out (by kernel_rfl)) (by decide) (fun K hK => ?_)
          refine goes_ Try.func12 (by kernel_rfl) rfl #[] (by rfl) rfl rfl (by (try simp only [List.map_toArray, List.map_cons, List.map_nil]); first | done | rfl | (simp only [List.length_drop, List.length_take]; rfl)) ?_
          with_reducible refine (coupletlaw04_awake.calls kj3  t491 _ A118.out).mono ?_
          rintro e w129 ⟨rfl, hb⟩
          refine ⟨_, rfl, ?_⟩
          have n0_ := Aside0.mk (blk_below (g := gb397) (o := .cells #[.int .i64 a0_0, .int .i64 a0_1, .bool a0_2] 23 (0, 0)) (by (with_reducible repeat (first | refine blk_drewN ?_ _ | refine blk_drew ?_ | refine blk_alloc ?_ _)); exact BK397.out) hb)
          have n1_ := Aside0.mk (blk_below (g := gb398) (o := .cells #[.int .i64 a1_0, .int .i64 a1_1, .bool a1_2] 23 (0, 0)) (by (with_reducible repeat (first | refine blk_drewN ?_ _ | refine blk_drew ?_ | refine blk_alloc ?_ _)); exact BK398.out) hb)
          have n2_ := Aside0.mk (blk_below (g := gb399) (o := .cells #[.int .i64 a2_0, .int .i64 a2_1, .bool a2_2] 23 (0, 0)) (by (with_reducible repeat (first | refine blk_drewN ?_ _ | refine blk_drew ?_ | refine blk_alloc ?_ _)); exact BK399.out) hb)
          have n3_ := Aside0.mk (below_step (by repeat (first | (with_reducible first | exact HB.out | apply below_alloc | apply pw_below_drewN | apply below_drew1 | refine below_set ?_ GE397.out | refine below_set ?_ GE398.out | refine below_set ?_ GE399.out) | exact HB.out)) hb)
          clear BK397
          clear BK398
          clear BK399
          clear HB
          have BK397 := n0_
          have BK398 := n1_
          have BK399 := n2_
          have HB := n3_
          clear n0_ n1_ n2_ n3_
          (try clear hb)
          (try clear hb2)
          (try clear hk)
          (try clear hi)
          refine hK.out _ _ ⟨(blk_cell BK398.out 0).trans rfl, (blk_cell BK398.out 1).trans rfl, (blk_cell BK398.out 2).trans rfl, (blk_cell BK397.out 0).trans rfl, (blk_cell BK397.out 1).trans rfl, (blk_cell BK397.out 2).trans rfl, (blk_cell BK399.out 0).trans rfl, (blk_cell BK399.out 1).trans rfl, (blk_cell BK399.out 2).trans rfl⟩ (fun hHeld => ?_)
          clear hK K
          refine norm_ (a' := ?_) ?_ ?_
          rotate_left
          ·
           show Act.put _ (some 122) _ = _
           simp only [Act.put, List.setIfInBounds_toArray, List.set_cons_zero, List.set_cons_succ, i64_w, i32_w]
           rfl
          refine pure_ (i := 36) (N := some 123) (v := ?_) (a' := ?_) #[true, true, true, true, true, true, true, true, true, true, true, true, true, true, true, true, true, true, true, true, true, true, true, true, true, true, true, true, true, true, true, true, true, true, true, true, true, false] rfl rfl (any_of HT_.out (by kernel_rfl)) (fun _ _ _ h => h) (Or.inl ⟨by rfl, ?_⟩) ?_ ?_
          rotate_left
          ·
           intro w'
           go_simp
           with_reducible rfl
          rotate_left
          ·
           simp only [Act.put, List.setIfInBounds_toArray, List.set_cons_zero, List.set_cons_succ, i64_w, i32_w]
           rfl
          refine pure_ (i := 37) (N := some 6) (v := ?_) (a' := ?_) #[true, true, true, true, true, true, true, true, true, true, true, true, true, true, true, true, true, true, true, true, true, true, true, true, true, true, true, true, true, true, true, true, true, true, true, true, true, true] rfl rfl (any_of HT_.out (by kernel_rfl)) (fun _ _ _ h => h) (Or.inl ⟨by rfl, ?_⟩) ?_ ?_
          rotate_left
          ·
           intro w'
           go_simp
           with_reducible rfl
          rotate_left
          ·
           simp only [Act.put, List.setIfInBounds_toArray, List.set_cons_zero, List.set_cons_succ, i64_w, i32_w]
           rfl
          refine done_ (done_of HT_.out (by kernel_rfl)) ?_
          try go_wp2
          go_ret
          exact ⟨by first | rfl | (simp [errW_none, errW_some] <;> rfl) | (simp [*, errW_none, errW_some] <;> rfl), by repeat (first | (with_reducible first | exact HB.out | apply below_alloc | apply pw_below_drewN | apply below_drew1 | refine below_set ?_ GE397.out | refine below_set ?_ GE398.out | refine below_set ?_ GE399.out) | exact HB.out)⟩
         ·
          rw [if_neg c117] at H
          have c117b0 : (t488 == a0_0 && (t489 == a0_1 && (t490 == a0_2))) = false := by simpa using c117
          (try (have c117b1 : decide (t488 = a0_0 && (t489 == a0_1 && (t490 == a0_2))) = false := by simpa using c117))
          (try (have c117b2 : (t488 == a0_0 && (t489 == a0_1 && (t490 == a0_2))) = false := by simpa using c117))
          (try (have c117b3 : ¬ (t488 = a0_0 && (t489 == a0_1 && (t490 == a0_2))) := by simpa using c117))
          clear c117
          obtain rfl := Option.some.inj H
          exact absurd hr (by decide)
        ·
         rw [if_neg c114] at H
         have c114b0 : (t473 == t482 && (t474 == t483 && (t475 == t484))) = false := by simpa using c114
         (try (have c114b1 : decide (t473 = t482 && (t474 == t483 && (t475 == t484))) = false := by simpa using c114))
         (try (have c114b2 : (t473 == t482 && (t474 == t483 && (t475 == t484))) = false := by simpa using c114))
         (try (have c114b3 : ¬ (t473 = t482 && (t474 == t483 && (t475 == t484))) := by simpa using c114))
         clear c114
         obtain rfl := Option.some.inj H
         exact absurd hr (by decide)
       ·
        rw [if_neg c108] at H
        have c108b0 : (t467 == a0_0 && (t468 == a0_1 && (t469 == a0_2))) = false := by simpa using c108
        (try (have c108b1 : decide (t467 = a0_0 && (t468 == a0_1 && (t469 == a0_2))) = false := by simpa using c108))
        (try (have c108b2 : (t467 == a0_0 && (t468 == a0_1 && (t469 == a0_2))) = false := by simpa using c108))
        (try (have c108b3 : ¬ (t467 = a0_0 && (t468 == a0_1 && (t469 == a0_2))) := by simpa using c108))
        clear c108
        obtain rfl := Option.some.inj H
        exact absurd hr (by decide)
end Go.Proofs.Ytbpbeighpaaeaaa.G
