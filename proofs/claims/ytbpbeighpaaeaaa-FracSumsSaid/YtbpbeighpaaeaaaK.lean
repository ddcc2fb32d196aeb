/- A fraction as the words of rows tell values of a struct. -/
import Derived.Test.YtbpbeighpaaeaaaGx0
namespace Go.Proofs.Ytbpbeighpaaeaaa.G
open Go.RowKit Go.Proofs.YtbpbeighpaaeaaaW.PrintWords Go.Proofs.YtbpbeighpaaeaaaW.PrintLast Go.Proofs.YtbpbeighpaaeaaaW.PrintMore
structure S23 where
  f0 : Int
  f1 : Int
  f2 : Bool
def k23 : Kd S23 := Kd.iso (Kd.pair (Kd.int .i64) (Kd.pair (Kd.int .i64) Kd.bool)) (fun x : S23 => (x.f0, x.f1, x.f2))
theorem k23_open {w : World} {x : S23} {cs : List Value} (h : k23.K w x cs) : cs = [.int .i64 x.f0, .int .i64 x.f1, .bool x.f2] := by
  obtain ⟨a, b, rfl, rfl, c, d, rfl, rfl, rfl⟩ := h
  rfl
end Go.Proofs.Ytbpbeighpaaeaaa.G
