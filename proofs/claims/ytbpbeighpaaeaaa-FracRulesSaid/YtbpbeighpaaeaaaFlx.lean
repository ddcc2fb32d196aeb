/- An array of three fractions as a value: built, and read at an index (the kit's walk has no words for these). -/
import Derived.Test.YtbpbeighpaaeaaaGx0
namespace Go.Proofs.Ytbpbeighpaaeaaa.G
open Go.RowKit
theorem build38 (a b d e g h : Int) (c f i : Bool) (w : World) : Sem.run Try.prog (Instr.build 38 #[(0, .agg #[.int .i64 a, .int .i64 b, .bool c]), (1, .agg #[.int .i64 d, .int .i64 e, .bool f]), (2, .agg #[.int .i64 g, .int .i64 h, .bool i])]) w = .ok (.agg #[.int .i64 a, .int .i64 b, .bool c, .int .i64 d, .int .i64 e, .bool f, .int .i64 g, .int .i64 h, .bool i]) w := by
  have hu23 := Try.underlying23
  have hu38 := Try.underlying38
  simp [go_sem, Instr.build, Instr.fill, Value.cells]
theorem index38_0 (a b d e g h : Int) (c f i : Bool) (w : World) : Sem.run Try.prog (Instr.index 38 (.agg #[.int .i64 a, .int .i64 b, .bool c, .int .i64 d, .int .i64 e, .bool f, .int .i64 g, .int .i64 h, .bool i]) (.int .i64 0)) w = .ok (.agg #[.int .i64 a, .int .i64 b, .bool c]) w := by
  have hu23 := Try.underlying23
  have hu38 := Try.underlying38
  simp [go_sem, Instr.index]
theorem index38_1 (a b d e g h : Int) (c f i : Bool) (w : World) : Sem.run Try.prog (Instr.index 38 (.agg #[.int .i64 a, .int .i64 b, .bool c, .int .i64 d, .int .i64 e, .bool f, .int .i64 g, .int .i64 h, .bool i]) (.int .i64 1)) w = .ok (.agg #[.int .i64 d, .int .i64 e, .bool f]) w := by
  have hu23 := Try.underlying23
  have hu38 := Try.underlying38
  simp [go_sem, Instr.index]
theorem index38_2 (a b d e g h : Int) (c f i : Bool) (w : World) : Sem.run Try.prog (Instr.index 38 (.agg #[.int .i64 a, .int .i64 b, .bool c, .int .i64 d, .int .i64 e, .bool f, .int .i64 g, .int .i64 h, .bool i]) (.int .i64 2)) w = .ok (.agg #[.int .i64 g, .int .i64 h, .bool i]) w := by
  have hu23 := Try.underlying23
  have hu38 := Try.underlying38
  simp [go_sem, Instr.index]
end Go.Proofs.Ytbpbeighpaaeaaa.G
