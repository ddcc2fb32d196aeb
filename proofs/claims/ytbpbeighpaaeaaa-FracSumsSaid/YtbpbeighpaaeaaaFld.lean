/- A field of a fraction that is a value (the kit's walk has no word for Instr.field). -/
import Derived.Test.YtbpbeighpaaeaaaGx0
namespace Go.Proofs.Ytbpbeighpaaeaaa.G
open Go.RowKit
theorem field23_0 (a b : Int) (c : Bool) (w : World) : Sem.run Try.prog (Instr.field 23 (.agg #[.int .i64 a, .int .i64 b, .bool c]) 0) w = .ok (.int .i64 a) w := by
  have hu23 := Try.underlying23
  simp [go_sem, Instr.field, asAgg]
theorem field23_1 (a b : Int) (c : Bool) (w : World) : Sem.run Try.prog (Instr.field 23 (.agg #[.int .i64 a, .int .i64 b, .bool c]) 1) w = .ok (.int .i64 b) w := by
  have hu23 := Try.underlying23
  simp [go_sem, Instr.field, asAgg]
theorem field23_2 (a b : Int) (c : Bool) (w : World) : Sem.run Try.prog (Instr.field 23 (.agg #[.int .i64 a, .int .i64 b, .bool c]) 2) w = .ok (.bool c) w := by
  have hu23 := Try.underlying23
  simp [go_sem, Instr.field, asAgg]
end Go.Proofs.Ytbpbeighpaaeaaa.G
