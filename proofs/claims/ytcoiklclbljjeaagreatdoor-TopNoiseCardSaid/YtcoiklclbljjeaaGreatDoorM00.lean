/- Lemmas of the card's proof. -/
import Derived.Lib.Hide
set_option linter.unusedVariables false
set_option linter.unusedSimpArgs false
set_option maxRecDepth 100000
set_option maxHeartbeats 16000000
namespace Go.Proofs.YtcoiklclbljjeaaGreatDoor.L
open Go.RowKit
theorem za {p : Prop} (h : p) : Hid p := Lib.hid h
theorem zc {α : Sort _} (a : α) : ∃ x, a = x := ⟨a, rfl⟩
instance : Coe Int Value := ⟨Value.int .i64⟩
instance : Coe Bool Value := ⟨Value.bool⟩
end Go.Proofs.YtcoiklclbljjeaaGreatDoor.L
