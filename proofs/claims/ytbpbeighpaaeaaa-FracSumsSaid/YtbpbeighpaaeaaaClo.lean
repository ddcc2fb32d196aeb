/- The three closures of frac (what Mul, Div, Neg hand to of): each reads the fields of the fractions that it holds by reference. -/
import Derived.Test.YtbpbeighpaaeaaaGx3
namespace Go.Proofs.Ytbpbeighpaaeaaa.G
open Go.RowKit Go.Proofs.YtbpbeighpaaeaaaW.PrintWords Go.Proofs.YtbpbeighpaaeaaaW.PrintLast Go.Proofs.YtbpbeighpaaeaaaW.PrintMore
set_option linter.unusedVariables false
set_option linter.unusedSimpArgs false

set_option maxHeartbeats 8000000 in
set_option maxRecDepth 100000 in
theorem clo_mul (ga : Nat) (a0 a1 : Int) (a2 : Bool) (gb : Nat) (b0 b1 : Int) (b2 : Bool) (w : World) (ha : w.heap[ga]? = some (.cells #[.int .i64 a0, .int .i64 a1, .bool a2] 23 (0, 0))) (hb : w.heap[gb]? = some (.cells #[.int .i64 b0, .int .i64 b1, .bool b2] 23 (0, 0))) :
    Calls Try.prog 34 #[.pointer (some ⟨ga, 0, none⟩), .pointer (some ⟨gb, 0, none⟩)] w fun e w' => e = .returned (.tuple #[.int .i64 (wrap64 (a0 * b0)), .int .i64 (wrap64 (a1 * b1))]) ∧ Below w.heap.size w w' := by
  have hu23 := Try.underlying23
  have HB := Below.refl w.heap.size w
  have ha0 : w.cell? ⟨ga, 0, none⟩ = some (.int .i64 a0) := (blk_cell ha 0).trans rfl
  have ha1 : w.cell? ⟨ga, 1, none⟩ = some (.int .i64 a1) := (blk_cell ha 1).trans rfl
  have hb0 : w.cell? ⟨gb, 0, none⟩ = some (.int .i64 b0) := (blk_cell hb 0).trans rfl
  have hb1 : w.cell? ⟨gb, 1, none⟩ = some (.int .i64 b1) := (blk_cell hb 1).trans rfl
  go_enter Try.func34, Try.ntmps34
  go_wp2_with fail
  go_quiet (fail)
  go_wp2_with fail
  refine bodyPost_ret (results_tmp2 rfl _ _ _) rfl ?_
  exact ⟨rfl, by repeat (first | (with_reducible first | exact HB | apply below_alloc | apply pw_below_drewN | apply below_drew1) | exact HB)⟩

set_option maxHeartbeats 8000000 in
set_option maxRecDepth 100000 in
theorem clo_div (ga : Nat) (a0 a1 : Int) (a2 : Bool) (gb : Nat) (b0 b1 : Int) (b2 : Bool) (w : World) (ha : w.heap[ga]? = some (.cells #[.int .i64 a0, .int .i64 a1, .bool a2] 23 (0, 0))) (hb : w.heap[gb]? = some (.cells #[.int .i64 b0, .int .i64 b1, .bool b2] 23 (0, 0))) :
    Calls Try.prog 31 #[.pointer (some ⟨ga, 0, none⟩), .pointer (some ⟨gb, 0, none⟩)] w fun e w' => e = .returned (.tuple #[.int .i64 (wrap64 (a0 * b1)), .int .i64 (wrap64 (a1 * b0))]) ∧ Below w.heap.size w w' := by
  have hu23 := Try.underlying23
  have HB := Below.refl w.heap.size w
  have ha0 : w.cell? ⟨ga, 0, none⟩ = some (.int .i64 a0) := (blk_cell ha 0).trans rfl
  have ha1 : w.cell? ⟨ga, 1, none⟩ = some (.int .i64 a1) := (blk_cell ha 1).trans rfl
  have hb0 : w.cell? ⟨gb, 0, none⟩ = some (.int .i64 b0) := (blk_cell hb 0).trans rfl
  have hb1 : w.cell? ⟨gb, 1, none⟩ = some (.int .i64 b1) := (blk_cell hb 1).trans rfl
  go_enter Try.func31, Try.ntmps31
  go_wp2_with fail
  go_quiet (fail)
  go_wp2_with fail
  refine bodyPost_ret (results_tmp2 rfl _ _ _) rfl ?_
  exact ⟨rfl, by repeat (first | (with_reducible first | exact HB | apply below_alloc | apply pw_below_drewN | apply below_drew1) | exact HB)⟩

set_option maxHeartbeats 8000000 in
set_option maxRecDepth 100000 in
theorem clo_neg (ga : Nat) (a0 a1 : Int) (a2 : Bool) (w : World) (ha : w.heap[ga]? = some (.cells #[.int .i64 a0, .int .i64 a1, .bool a2] 23 (0, 0))) :
    Calls Try.prog 32 #[.pointer (some ⟨ga, 0, none⟩)] w fun e w' => e = .returned (.tuple #[.int .i64 (wrap64 (-a0)), .int .i64 a1]) ∧ Below w.heap.size w w' := by
  have hu23 := Try.underlying23
  have HB := Below.refl w.heap.size w
  have ha0 : w.cell? ⟨ga, 0, none⟩ = some (.int .i64 a0) := (blk_cell ha 0).trans rfl
  have ha1 : w.cell? ⟨ga, 1, none⟩ = some (.int .i64 a1) := (blk_cell ha 1).trans rfl
  go_enter Try.func32, Try.ntmps32
  go_wp2_with fail
  go_quiet (fail)
  go_wp2_with fail
  refine bodyPost_ret (results_tmp2 rfl _ _ _) rfl ?_
  exact ⟨rfl, by repeat (first | (with_reducible first | exact HB | apply below_alloc | apply pw_below_drewN | apply below_drew1) | exact HB)⟩
end Go.Proofs.Ytbpbeighpaaeaaa.G
