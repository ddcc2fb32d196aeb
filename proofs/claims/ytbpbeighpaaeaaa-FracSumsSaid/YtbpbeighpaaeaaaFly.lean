/- An array of two fractions as a value: built, and read at an index. -/
import Derived.Test.YtbpbeighpaaeaaaGx0
namespace Go.Proofs.Ytbpbeighpaaeaaa.G
open Go.RowKit
theorem build37 (a b d e : Int) (c f : Bool) (w : World) : Sem.run Try.prog (Instr.build 37 #[(0, .agg #[.int .i64 a, .int .i64 b, .bool c]), (1, .agg #[.int .i64 d, .int .i64 e, .bool f])]) w = .ok (.agg #[.int .i64 a, .int .i64 b, .bool c, .int .i64 d, .int .i64 e, .bool f]) w := by
  have hu23 := Try.underlying23
  have hu37 := Try.underlying37
  simp [go_sem, Instr.build, Instr.fill, Value.cells]
theorem index37_0 (a b d e : Int) (c f : Bool) (w : World) : Sem.run Try.prog (Instr.index 37 (.agg #[.int .i64 a, .int .i64 b, .bool c, .int .i64 d, .int .i64 e, .bool f]) (.int .i64 0)) w = .ok (.agg #[.int .i64 a, .int .i64 b, .bool c]) w := by
  have hu23 := Try.underlying23
  have hu37 := Try.underlying37
  simp [go_sem, Instr.index]
theorem index37_1 (a b d e : Int) (c f : Bool) (w : World) : Sem.run Try.prog (Instr.index 37 (.agg #[.int .i64 a, .int .i64 b, .bool c, .int .i64 d, .int .i64 e, .bool f]) (.int .i64 1)) w = .ok (.agg #[.int .i64 d, .int .i64 e, .bool f]) w := by
  have hu23 := Try.underlying23
  have hu37 := Try.underlying37
  simp [go_sem, Instr.index]
end Go.Proofs.Ytbpbeighpaaeaaa.G
