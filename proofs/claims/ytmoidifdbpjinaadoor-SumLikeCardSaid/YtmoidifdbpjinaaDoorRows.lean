/-
  NARROWER THAN 'FOR EVERY INPUT', by the rows' own cells (each row's printed sentence says how): SumOf: laid · SumGoesOn: laid · SumTurned: laid · SumResidue: laid · SumLike: laid.
  DERIVED. THE GIVEN ROWS OF THIS SEAT. 5 by the template 'for every input the law returns true; each argument reads behind the call as it read before'; 0 by the template 'total and deterministic' (their statements: YtmoidifdbpjinaaDoorTotals.lean).
  GIVEN WITH THE SEED: the statements are not yours to turn. If you find one false, say at which input.
  Laid BY PROGRAM, IN A SANDBOX (cutbox-rows.mjs): the forced cells as the released guide's own fill.sh prints them over the translation 9c7032d6757f63e1… (all of the seat's roots in one cut). By AI agents, Wed Nov 11 2026. No macro, syntax, notation, axiom, sorry.
-/
import Derived.Test.YtmoidifdbpjinaaDoorChecked
import GoSem.Claim
import GoSem.ClaimJoined
import GoSem.ClaimMapViews
import Derived.JoinedTies
import Derived.KernelRfl
namespace Go.Proofs.YtmoidifdbpjinaaDoor
/- THE CELL 'sum', in the pinned program and in every row, IS THE sha256 OF THE DUMP (.gsa) THAT YtmoidifdbpjinaaDoorProg.lean LOADS. Nothing in Lean hashes anything: it is a label: what it is worth is what the hold of that sum in a sandbox is worth. -/
noncomputable def Tryd.pinned : Pinned := { name := "ytmoidifdbpjinaadoor", sum := "9c7032d6757f63e13cc2a8eebc48835af1cb2be6c47a416bf0500919d88a9568", checked := Tryd.checked }
namespace Rows
def none {H : Type} : Left H := { results := [], args := [] }

/- WHAT THE LISTED PACKAGE-LEVEL VARIABLES READ AS WHEN THE CALL BEGINS. Each datum BY PROGRAM (the guide's laid-datum.mjs) off the statement by which the dump's own 'gosem.cut.vars' lays the variable. In a bare row this is a premise. The card (YtmoidifdbpjinaaDoorCards.lean) ties it to the program's text. -/
def laid_couplet_sum_nibbles {H : Type} : DataW H := .agg [.lit (.int .u32 0), .lit (.int .u32 498536548), .lit (.int .u32 997073096), .lit (.int .u32 651767980), .lit (.int .u32 1994146192), .lit (.int .u32 1802195444), .lit (.int .u32 1303535960), .lit (.int .u32 1342533948), .lit (.int .u32 3988292384), .lit (.int .u32 4027552580), .lit (.int .u32 3604390888), .lit (.int .u32 3412177804), .lit (.int .u32 2607071920), .lit (.int .u32 2262029012), .lit (.int .u32 2685067896), .lit (.int .u32 3183342108)]

/-- 'coupletlaw11.SumOf': WHATEVER THE INPUT: true; the input reads as it did. -/
def sumOfSpec : ChangeSpec := { name := "sumOf", fn := fun _ => fun
  | [d] => { results := [.lit (.bool true)], args := [d] }
  | _ => none }
def sumOfRow : OpenClaim := { program := "ytmoidifdbpjinaadoor", sum := "9c7032d6757f63e13cc2a8eebc48835af1cb2be6c47a416bf0500919d88a9568", func := "couplet/coupletlaw11.SumOf", spec := "sumOf", named := ["couplet/sum.nibbles"], apart := false, laid := [("couplet/sum.nibbles", laid_couplet_sum_nibbles)] }
def SumOfSaid : Prop := sumOfRow.holds Tryd.pinned (OpenSpec.ofChange sumOfSpec)

/-- ITS FALSE NEIGHBOUR: 'it returns false'. Refute it at one input. -/
def sumOfWrong : ChangeSpec := { name := "sumOf", fn := fun _ => fun
  | [d] => { results := [.lit (.bool false)], args := [d] }
  | _ => none }
def SumOfWrongFalsely : Prop := sumOfRow.holds Tryd.pinned (OpenSpec.ofChange sumOfWrong)

/-- 'coupletlaw11.SumGoesOn': WHATEVER THE INPUT: true; the input reads as it did. -/
def sumGoesOnSpec : ChangeSpec := { name := "sumGoesOn", fn := fun _ => fun
  | [d1, d2] => { results := [.lit (.bool true)], args := [d1, d2] }
  | _ => none }
def sumGoesOnRow : OpenClaim := { program := "ytmoidifdbpjinaadoor", sum := "9c7032d6757f63e13cc2a8eebc48835af1cb2be6c47a416bf0500919d88a9568", func := "couplet/coupletlaw11.SumGoesOn", spec := "sumGoesOn", named := ["couplet/sum.nibbles"], apart := false, laid := [("couplet/sum.nibbles", laid_couplet_sum_nibbles)] }
def SumGoesOnSaid : Prop := sumGoesOnRow.holds Tryd.pinned (OpenSpec.ofChange sumGoesOnSpec)

/-- ITS FALSE NEIGHBOUR: 'it returns false'. Refute it at one input. -/
def sumGoesOnWrong : ChangeSpec := { name := "sumGoesOn", fn := fun _ => fun
  | [d1, d2] => { results := [.lit (.bool false)], args := [d1, d2] }
  | _ => none }
def SumGoesOnWrongFalsely : Prop := sumGoesOnRow.holds Tryd.pinned (OpenSpec.ofChange sumGoesOnWrong)

/-- 'coupletlaw11.SumTurned': WHATEVER THE INPUT: true; the input reads as it did. -/
def sumTurnedSpec : ChangeSpec := { name := "sumTurned", fn := fun _ => fun
  | [d1, d2, d3] => { results := [.lit (.bool true)], args := [d1, d2, d3] }
  | _ => none }
def sumTurnedRow : OpenClaim := { program := "ytmoidifdbpjinaadoor", sum := "9c7032d6757f63e13cc2a8eebc48835af1cb2be6c47a416bf0500919d88a9568", func := "couplet/coupletlaw11.SumTurned", spec := "sumTurned", named := ["couplet/sum.nibbles"], apart := false, laid := [("couplet/sum.nibbles", laid_couplet_sum_nibbles)] }
def SumTurnedSaid : Prop := sumTurnedRow.holds Tryd.pinned (OpenSpec.ofChange sumTurnedSpec)

/-- ITS FALSE NEIGHBOUR: 'it returns false'. Refute it at one input. -/
def sumTurnedWrong : ChangeSpec := { name := "sumTurned", fn := fun _ => fun
  | [d1, d2, d3] => { results := [.lit (.bool false)], args := [d1, d2, d3] }
  | _ => none }
def SumTurnedWrongFalsely : Prop := sumTurnedRow.holds Tryd.pinned (OpenSpec.ofChange sumTurnedWrong)

/-- 'coupletlaw11.SumResidue': WHATEVER THE INPUT: true; the input reads as it did. -/
def sumResidueSpec : ChangeSpec := { name := "sumResidue", fn := fun _ => fun
  | [d] => { results := [.lit (.bool true)], args := [d] }
  | _ => none }
def sumResidueRow : OpenClaim := { program := "ytmoidifdbpjinaadoor", sum := "9c7032d6757f63e13cc2a8eebc48835af1cb2be6c47a416bf0500919d88a9568", func := "couplet/coupletlaw11.SumResidue", spec := "sumResidue", named := ["couplet/sum.nibbles"], apart := false, laid := [("couplet/sum.nibbles", laid_couplet_sum_nibbles)] }
def SumResidueSaid : Prop := sumResidueRow.holds Tryd.pinned (OpenSpec.ofChange sumResidueSpec)

/-- ITS FALSE NEIGHBOUR: 'it returns false'. Refute it at one input. -/
def sumResidueWrong : ChangeSpec := { name := "sumResidue", fn := fun _ => fun
  | [d] => { results := [.lit (.bool false)], args := [d] }
  | _ => none }
def SumResidueWrongFalsely : Prop := sumResidueRow.holds Tryd.pinned (OpenSpec.ofChange sumResidueWrong)

/-- 'coupletlaw11.SumLike': WHATEVER THE INPUT: true; the input reads as it did. -/
def sumLikeSpec : ChangeSpec := { name := "sumLike", fn := fun _ => fun
  | [d1, d2] => { results := [.lit (.bool true)], args := [d1, d2] }
  | _ => none }
def sumLikeRow : OpenClaim := { program := "ytmoidifdbpjinaadoor", sum := "9c7032d6757f63e13cc2a8eebc48835af1cb2be6c47a416bf0500919d88a9568", func := "couplet/coupletlaw11.SumLike", spec := "sumLike", named := ["couplet/sum.nibbles"], apart := false, laid := [("couplet/sum.nibbles", laid_couplet_sum_nibbles)] }
def SumLikeSaid : Prop := sumLikeRow.holds Tryd.pinned (OpenSpec.ofChange sumLikeSpec)

/-- ITS FALSE NEIGHBOUR: 'it returns false'. Refute it at one input. -/
def sumLikeWrong : ChangeSpec := { name := "sumLike", fn := fun _ => fun
  | [d1, d2] => { results := [.lit (.bool false)], args := [d1, d2] }
  | _ => none }
def SumLikeWrongFalsely : Prop := sumLikeRow.holds Tryd.pinned (OpenSpec.ofChange sumLikeWrong)

/- THE SECOND FORM. 'bulk': how many values and letters a reading holds, each counted each time it is reached (what is shared counts as often as it is met; a slice's spare places count too). A statement '..UptoSaid' is the law's where the arguments, and the package variables that the reading takes, are together of bulk at most 1048576: NARROWER than '..Said'. Prove '..Said' where nothing that the law and all that it calls make is longer than what came in: it says more and counts as full. Else prove '..UptoSaid'. A law counts once. -/
mutual
def uptoBulk {H : Type} : DataW H → Nat
  | .lit (.string bytes) => bytes.length + 1
  | .lit _ => 1
  | .nil => 1
  | .ptr d => uptoBulk d + 1
  | .slice elems spare => uptoBulkAll elems + uptoBulkAll spare + 1
  | .agg parts => uptoBulkAll parts + 1
  | .iface _ d => uptoBulk d + 1
  | .map entries => uptoBulkEntries entries + 1
  | .held _ => 1
def uptoBulkAll {H : Type} : List (DataW H) → Nat
  | [] => 0
  | d :: r => uptoBulk d + uptoBulkAll r
def uptoBulkEntries {H : Type} : List (Lit × DataW H) → Nat
  | [] => 0
  | x :: r => uptoBulkEntry x + uptoBulkEntries r
def uptoBulkEntry {H : Type} : Lit × DataW H → Nat
  | (.string bytes, d) => bytes.length + uptoBulk d + 1
  | (_, d) => uptoBulk d + 1
 end
def uptoSmall : (H : Type) → List (DataW H) → Bool := fun _ ds => decide (uptoBulkAll ds ≤ 1048576)
def OpenSpec.upto (s : _root_.Go.ChangeSpec) : _root_.Go.OpenSpec := { _root_.Go.OpenSpec.ofChange s with cond := some uptoSmall }

/-- 'coupletlaw11.SumOf', WHERE WHAT IT READS IS OF BULK AT MOST 1048576: true; the input reads as it did. -/
def sumOfUptoRow : OpenClaim := { program := "ytmoidifdbpjinaadoor", sum := "9c7032d6757f63e13cc2a8eebc48835af1cb2be6c47a416bf0500919d88a9568", func := "couplet/coupletlaw11.SumOf", spec := "sumOf", named := ["couplet/sum.nibbles"], apart := false, laid := [("couplet/sum.nibbles", laid_couplet_sum_nibbles)], narrowed := true }
def SumOfUptoSaid : Prop := sumOfUptoRow.holds Tryd.pinned (OpenSpec.upto sumOfSpec)

/-- 'coupletlaw11.SumGoesOn', WHERE WHAT IT READS IS OF BULK AT MOST 1048576: true; the input reads as it did. -/
def sumGoesOnUptoRow : OpenClaim := { program := "ytmoidifdbpjinaadoor", sum := "9c7032d6757f63e13cc2a8eebc48835af1cb2be6c47a416bf0500919d88a9568", func := "couplet/coupletlaw11.SumGoesOn", spec := "sumGoesOn", named := ["couplet/sum.nibbles"], apart := false, laid := [("couplet/sum.nibbles", laid_couplet_sum_nibbles)], narrowed := true }
def SumGoesOnUptoSaid : Prop := sumGoesOnUptoRow.holds Tryd.pinned (OpenSpec.upto sumGoesOnSpec)

/-- 'coupletlaw11.SumTurned', WHERE WHAT IT READS IS OF BULK AT MOST 1048576: true; the input reads as it did. -/
def sumTurnedUptoRow : OpenClaim := { program := "ytmoidifdbpjinaadoor", sum := "9c7032d6757f63e13cc2a8eebc48835af1cb2be6c47a416bf0500919d88a9568", func := "couplet/coupletlaw11.SumTurned", spec := "sumTurned", named := ["couplet/sum.nibbles"], apart := false, laid := [("couplet/sum.nibbles", laid_couplet_sum_nibbles)], narrowed := true }
def SumTurnedUptoSaid : Prop := sumTurnedUptoRow.holds Tryd.pinned (OpenSpec.upto sumTurnedSpec)

/-- 'coupletlaw11.SumResidue', WHERE WHAT IT READS IS OF BULK AT MOST 1048576: true; the input reads as it did. -/
def sumResidueUptoRow : OpenClaim := { program := "ytmoidifdbpjinaadoor", sum := "9c7032d6757f63e13cc2a8eebc48835af1cb2be6c47a416bf0500919d88a9568", func := "couplet/coupletlaw11.SumResidue", spec := "sumResidue", named := ["couplet/sum.nibbles"], apart := false, laid := [("couplet/sum.nibbles", laid_couplet_sum_nibbles)], narrowed := true }
def SumResidueUptoSaid : Prop := sumResidueUptoRow.holds Tryd.pinned (OpenSpec.upto sumResidueSpec)

/-- 'coupletlaw11.SumLike', WHERE WHAT IT READS IS OF BULK AT MOST 1048576: true; the input reads as it did. -/
def sumLikeUptoRow : OpenClaim := { program := "ytmoidifdbpjinaadoor", sum := "9c7032d6757f63e13cc2a8eebc48835af1cb2be6c47a416bf0500919d88a9568", func := "couplet/coupletlaw11.SumLike", spec := "sumLike", named := ["couplet/sum.nibbles"], apart := false, laid := [("couplet/sum.nibbles", laid_couplet_sum_nibbles)], narrowed := true }
def SumLikeUptoSaid : Prop := sumLikeUptoRow.holds Tryd.pinned (OpenSpec.upto sumLikeSpec)

end Rows
end Go.Proofs.YtmoidifdbpjinaaDoor
