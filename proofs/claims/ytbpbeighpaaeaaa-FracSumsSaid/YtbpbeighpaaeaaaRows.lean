/-
  No cell of these rows narrows 'for every input' (looked for: loops, veiled, ifaces, maps, wideKeys, modest, calm, conditions, laid).
  DERIVED. THE GIVEN ROWS OF THIS SEAT. 7 by the template 'for every input the law returns true; each argument reads behind the call as it read before'; 0 by the template 'total and deterministic' (their statements: YtbpbeighpaaeaaaTotals.lean).
  GIVEN WITH THE SEED: the statements are not yours to turn. If you find one false, say at which input.
  Laid BY PROGRAM, IN A SANDBOX (cutbox-rows.mjs): the forced cells as the released guide's own fill.sh prints them over the translation 3f349be578b72e4d… (all of the seat's roots in one cut). By AI agents, Wed Nov 11 2026. No macro, syntax, notation, axiom, sorry.
-/
import Derived.Test.YtbpbeighpaaeaaaChecked
import GoSem.Claim
import GoSem.ClaimJoined
import GoSem.ClaimMapViews
import Derived.JoinedTies
import Derived.KernelRfl
namespace Go.Proofs.Ytbpbeighpaaeaaa
/- THE CELL 'sum', in the pinned program and in every row, IS THE sha256 OF THE DUMP (.gsa) THAT YtbpbeighpaaeaaaProg.lean LOADS. Nothing in Lean hashes anything: it is a label: what it is worth is what the hold of that sum in a sandbox is worth. -/
noncomputable def Try.pinned : Pinned := { name := "ytbpbeighpaaeaaa", sum := "3f349be578b72e4d2414b19048e22b95965523c9c0bcdca11d117037028c8faf", checked := Try.checked }
namespace Rows
def none {H : Type} : Left H := { results := [], args := [] }

/-- 'coupletlaw04.FracNew': WHATEVER THE INPUT: true; the input reads as it did. -/
def fracNewSpec : ChangeSpec := { name := "fracNew", fn := fun _ => fun
  | [d1, d2] => { results := [.lit (.bool true)], args := [d1, d2] }
  | _ => none }
def fracNewRow : OpenClaim := { program := "ytbpbeighpaaeaaa", sum := "3f349be578b72e4d2414b19048e22b95965523c9c0bcdca11d117037028c8faf", func := "couplet/coupletlaw04.FracNew", spec := "fracNew", apart := false }
def FracNewSaid : Prop := fracNewRow.holds Try.pinned (OpenSpec.ofChange fracNewSpec)

/-- ITS FALSE NEIGHBOUR: 'it returns false'. Refute it at one input. -/
def fracNewWrong : ChangeSpec := { name := "fracNew", fn := fun _ => fun
  | [d1, d2] => { results := [.lit (.bool false)], args := [d1, d2] }
  | _ => none }
def FracNewWrongFalsely : Prop := fracNewRow.holds Try.pinned (OpenSpec.ofChange fracNewWrong)

/-- 'coupletlaw04.FracQuotients': WHATEVER THE INPUT: true; the input reads as it did. -/
def fracQuotientsSpec : ChangeSpec := { name := "fracQuotients", fn := fun _ => fun
  | [d1, d2] => { results := [.lit (.bool true)], args := [d1, d2] }
  | _ => none }
def fracQuotientsRow : OpenClaim := { program := "ytbpbeighpaaeaaa", sum := "3f349be578b72e4d2414b19048e22b95965523c9c0bcdca11d117037028c8faf", func := "couplet/coupletlaw04.FracQuotients", spec := "fracQuotients", unfollowed := true, recurses := true, apart := false }
def FracQuotientsSaid : Prop := fracQuotientsRow.holds Try.pinned (OpenSpec.ofChange fracQuotientsSpec)

/-- ITS FALSE NEIGHBOUR: 'it returns false'. Refute it at one input. -/
def fracQuotientsWrong : ChangeSpec := { name := "fracQuotients", fn := fun _ => fun
  | [d1, d2] => { results := [.lit (.bool false)], args := [d1, d2] }
  | _ => none }
def FracQuotientsWrongFalsely : Prop := fracQuotientsRow.holds Try.pinned (OpenSpec.ofChange fracQuotientsWrong)

/-- 'coupletlaw04.FracRoots': WHATEVER THE INPUT: true; the input reads as it did. -/
def fracRootsSpec : ChangeSpec := { name := "fracRoots", fn := fun _ => fun
  | [d1, d2] => { results := [.lit (.bool true)], args := [d1, d2] }
  | _ => none }
def fracRootsRow : OpenClaim := { program := "ytbpbeighpaaeaaa", sum := "3f349be578b72e4d2414b19048e22b95965523c9c0bcdca11d117037028c8faf", func := "couplet/coupletlaw04.FracRoots", spec := "fracRoots", unfollowed := true, recurses := true, apart := false }
def FracRootsSaid : Prop := fracRootsRow.holds Try.pinned (OpenSpec.ofChange fracRootsSpec)

/-- ITS FALSE NEIGHBOUR: 'it returns false'. Refute it at one input. -/
def fracRootsWrong : ChangeSpec := { name := "fracRoots", fn := fun _ => fun
  | [d1, d2] => { results := [.lit (.bool false)], args := [d1, d2] }
  | _ => none }
def FracRootsWrongFalsely : Prop := fracRootsRow.holds Try.pinned (OpenSpec.ofChange fracRootsWrong)

/-- 'coupletlaw04.FracSquares': WHATEVER THE INPUT: true; the input reads as it did. -/
def fracSquaresSpec : ChangeSpec := { name := "fracSquares", fn := fun _ => fun
  | [d] => { results := [.lit (.bool true)], args := [d] }
  | _ => none }
def fracSquaresRow : OpenClaim := { program := "ytbpbeighpaaeaaa", sum := "3f349be578b72e4d2414b19048e22b95965523c9c0bcdca11d117037028c8faf", func := "couplet/coupletlaw04.FracSquares", spec := "fracSquares", unfollowed := true, recurses := true, apart := false }
def FracSquaresSaid : Prop := fracSquaresRow.holds Try.pinned (OpenSpec.ofChange fracSquaresSpec)

/-- ITS FALSE NEIGHBOUR: 'it returns false'. Refute it at one input. -/
def fracSquaresWrong : ChangeSpec := { name := "fracSquares", fn := fun _ => fun
  | [d] => { results := [.lit (.bool false)], args := [d] }
  | _ => none }
def FracSquaresWrongFalsely : Prop := fracSquaresRow.holds Try.pinned (OpenSpec.ofChange fracSquaresWrong)

/-- 'coupletlaw04.FracSums': WHATEVER THE INPUT: true; the input reads as it did. -/
def fracSumsSpec : ChangeSpec := { name := "fracSums", fn := fun _ => fun
  | [d1, d2] => { results := [.lit (.bool true)], args := [d1, d2] }
  | _ => none }
def fracSumsRow : OpenClaim := { program := "ytbpbeighpaaeaaa", sum := "3f349be578b72e4d2414b19048e22b95965523c9c0bcdca11d117037028c8faf", func := "couplet/coupletlaw04.FracSums", spec := "fracSums", unfollowed := true, recurses := true, apart := false }
def FracSumsSaid : Prop := fracSumsRow.holds Try.pinned (OpenSpec.ofChange fracSumsSpec)

/-- ITS FALSE NEIGHBOUR: 'it returns false'. Refute it at one input. -/
def fracSumsWrong : ChangeSpec := { name := "fracSums", fn := fun _ => fun
  | [d1, d2] => { results := [.lit (.bool false)], args := [d1, d2] }
  | _ => none }
def FracSumsWrongFalsely : Prop := fracSumsRow.holds Try.pinned (OpenSpec.ofChange fracSumsWrong)

/-- 'coupletlaw04.FracRules': WHATEVER THE INPUT: true; the input reads as it did. -/
def fracRulesSpec : ChangeSpec := { name := "fracRules", fn := fun _ => fun
  | [d1, d2, d3] => { results := [.lit (.bool true)], args := [d1, d2, d3] }
  | _ => none }
def fracRulesRow : OpenClaim := { program := "ytbpbeighpaaeaaa", sum := "3f349be578b72e4d2414b19048e22b95965523c9c0bcdca11d117037028c8faf", func := "couplet/coupletlaw04.FracRules", spec := "fracRules", unfollowed := true, recurses := true, apart := false }
def FracRulesSaid : Prop := fracRulesRow.holds Try.pinned (OpenSpec.ofChange fracRulesSpec)

/-- ITS FALSE NEIGHBOUR: 'it returns false'. Refute it at one input. -/
def fracRulesWrong : ChangeSpec := { name := "fracRules", fn := fun _ => fun
  | [d1, d2, d3] => { results := [.lit (.bool false)], args := [d1, d2, d3] }
  | _ => none }
def FracRulesWrongFalsely : Prop := fracRulesRow.holds Try.pinned (OpenSpec.ofChange fracRulesWrong)

/-- 'coupletlaw04.FracBad': WHATEVER THE INPUT: true; the input reads as it did. -/
def fracBadSpec : ChangeSpec := { name := "fracBad", fn := fun _ => fun
  | [d1, d2] => { results := [.lit (.bool true)], args := [d1, d2] }
  | _ => none }
def fracBadRow : OpenClaim := { program := "ytbpbeighpaaeaaa", sum := "3f349be578b72e4d2414b19048e22b95965523c9c0bcdca11d117037028c8faf", func := "couplet/coupletlaw04.FracBad", spec := "fracBad", unfollowed := true, recurses := true, apart := false }
def FracBadSaid : Prop := fracBadRow.holds Try.pinned (OpenSpec.ofChange fracBadSpec)

/-- ITS FALSE NEIGHBOUR: 'it returns false'. Refute it at one input. -/
def fracBadWrong : ChangeSpec := { name := "fracBad", fn := fun _ => fun
  | [d1, d2] => { results := [.lit (.bool false)], args := [d1, d2] }
  | _ => none }
def FracBadWrongFalsely : Prop := fracBadRow.holds Try.pinned (OpenSpec.ofChange fracBadWrong)

/- THE SECOND FORM. 'bulk': how many values and letters a reading holds, each counted each time it is reached (what is shared counts as often as it is met; a slice's spare places count too). A statement '..UptoSaid' is the law's where the arguments, and the package variables that the reading takes, are together of bulk at most 1048576: NARROWER than '..Said'. Prove '..Said' where nothing that the law and all that it calls make is longer than what came in: it says more and counts as full. Else prove '..UptoSaid'. A law counts once. -/
mutual
def uptoBulk {H : Type} : DataW H → Nat
  | .lit (.string bytes) => bytes.length + 1
  | .lit _ => 1
  | .nil => 1
  | .ptr d => uptoBulk d + 1
  | .slice elems spare => uptoBulkAll elems + uptoBulkAll spare + 1
  | .agg parts => uptoBulkAll parts + 1
  | .iface _ d => uptoBulk d + 1
  | .map entries => uptoBulkEntries entries + 1
  | .held _ => 1
def uptoBulkAll {H : Type} : List (DataW H) → Nat
  | [] => 0
  | d :: r => uptoBulk d + uptoBulkAll r
def uptoBulkEntries {H : Type} : List (Lit × DataW H) → Nat
  | [] => 0
  | x :: r => uptoBulkEntry x + uptoBulkEntries r
def uptoBulkEntry {H : Type} : Lit × DataW H → Nat
  | (.string bytes, d) => bytes.length + uptoBulk d + 1
  | (_, d) => uptoBulk d + 1
 end
def uptoSmall : (H : Type) → List (DataW H) → Bool := fun _ ds => decide (uptoBulkAll ds ≤ 1048576)
def OpenSpec.upto (s : _root_.Go.ChangeSpec) : _root_.Go.OpenSpec := { _root_.Go.OpenSpec.ofChange s with cond := some uptoSmall }

/-- 'coupletlaw04.FracNew', WHERE WHAT IT READS IS OF BULK AT MOST 1048576: true; the input reads as it did. -/
def fracNewUptoRow : OpenClaim := { program := "ytbpbeighpaaeaaa", sum := "3f349be578b72e4d2414b19048e22b95965523c9c0bcdca11d117037028c8faf", func := "couplet/coupletlaw04.FracNew", spec := "fracNew", apart := false, narrowed := true }
def FracNewUptoSaid : Prop := fracNewUptoRow.holds Try.pinned (OpenSpec.upto fracNewSpec)

/-- 'coupletlaw04.FracQuotients', WHERE WHAT IT READS IS OF BULK AT MOST 1048576: true; the input reads as it did. -/
def fracQuotientsUptoRow : OpenClaim := { program := "ytbpbeighpaaeaaa", sum := "3f349be578b72e4d2414b19048e22b95965523c9c0bcdca11d117037028c8faf", func := "couplet/coupletlaw04.FracQuotients", spec := "fracQuotients", unfollowed := true, recurses := true, apart := false, narrowed := true }
def FracQuotientsUptoSaid : Prop := fracQuotientsUptoRow.holds Try.pinned (OpenSpec.upto fracQuotientsSpec)

/-- 'coupletlaw04.FracRoots', WHERE WHAT IT READS IS OF BULK AT MOST 1048576: true; the input reads as it did. -/
def fracRootsUptoRow : OpenClaim := { program := "ytbpbeighpaaeaaa", sum := "3f349be578b72e4d2414b19048e22b95965523c9c0bcdca11d117037028c8faf", func := "couplet/coupletlaw04.FracRoots", spec := "fracRoots", unfollowed := true, recurses := true, apart := false, narrowed := true }
def FracRootsUptoSaid : Prop := fracRootsUptoRow.holds Try.pinned (OpenSpec.upto fracRootsSpec)

/-- 'coupletlaw04.FracSquares', WHERE WHAT IT READS IS OF BULK AT MOST 1048576: true; the input reads as it did. -/
def fracSquaresUptoRow : OpenClaim := { program := "ytbpbeighpaaeaaa", sum := "3f349be578b72e4d2414b19048e22b95965523c9c0bcdca11d117037028c8faf", func := "couplet/coupletlaw04.FracSquares", spec := "fracSquares", unfollowed := true, recurses := true, apart := false, narrowed := true }
def FracSquaresUptoSaid : Prop := fracSquaresUptoRow.holds Try.pinned (OpenSpec.upto fracSquaresSpec)

/-- 'coupletlaw04.FracSums', WHERE WHAT IT READS IS OF BULK AT MOST 1048576: true; the input reads as it did. -/
def fracSumsUptoRow : OpenClaim := { program := "ytbpbeighpaaeaaa", sum := "3f349be578b72e4d2414b19048e22b95965523c9c0bcdca11d117037028c8faf", func := "couplet/coupletlaw04.FracSums", spec := "fracSums", unfollowed := true, recurses := true, apart := false, narrowed := true }
def FracSumsUptoSaid : Prop := fracSumsUptoRow.holds Try.pinned (OpenSpec.upto fracSumsSpec)

/-- 'coupletlaw04.FracRules', WHERE WHAT IT READS IS OF BULK AT MOST 1048576: true; the input reads as it did. -/
def fracRulesUptoRow : OpenClaim := { program := "ytbpbeighpaaeaaa", sum := "3f349be578b72e4d2414b19048e22b95965523c9c0bcdca11d117037028c8faf", func := "couplet/coupletlaw04.FracRules", spec := "fracRules", unfollowed := true, recurses := true, apart := false, narrowed := true }
def FracRulesUptoSaid : Prop := fracRulesUptoRow.holds Try.pinned (OpenSpec.upto fracRulesSpec)

/-- 'coupletlaw04.FracBad', WHERE WHAT IT READS IS OF BULK AT MOST 1048576: true; the input reads as it did. -/
def fracBadUptoRow : OpenClaim := { program := "ytbpbeighpaaeaaa", sum := "3f349be578b72e4d2414b19048e22b95965523c9c0bcdca11d117037028c8faf", func := "couplet/coupletlaw04.FracBad", spec := "fracBad", unfollowed := true, recurses := true, apart := false, narrowed := true }
def FracBadUptoSaid : Prop := fracBadUptoRow.holds Try.pinned (OpenSpec.upto fracBadSpec)

end Rows
end Go.Proofs.Ytbpbeighpaaeaaa
