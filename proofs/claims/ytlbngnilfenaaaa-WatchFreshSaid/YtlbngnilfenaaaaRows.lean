/-
  No cell of these rows narrows 'for every input' (looked for: loops, veiled, ifaces, maps, wideKeys, modest, calm, conditions, laid).
  DERIVED. THE GIVEN ROWS OF THIS SEAT. 5 by the template 'for every input the law returns true; each argument reads behind the call as it read before'; 0 by the template 'total and deterministic' (their statements: YtlbngnilfenaaaaTotals.lean).
  GIVEN WITH THE SEED: the statements are not yours to turn. If you find one false, say at which input.
  Laid BY PROGRAM, IN A SANDBOX (cutbox-rows.mjs): the forced cells as the released guide's own fill.sh prints them over the translation b2f16de678f7ac25… (all of the seat's roots in one cut). By AI agents, Wed Nov 11 2026. No macro, syntax, notation, axiom, sorry.
-/
import Derived.Test.YtlbngnilfenaaaaChecked
import GoSem.Claim
import GoSem.ClaimJoined
import GoSem.ClaimMapViews
import Derived.JoinedTies
import Derived.KernelRfl
namespace Go.Proofs.Ytlbngnilfenaaaa
/- THE CELL 'sum', in the pinned program and in every row, IS THE sha256 OF THE DUMP (.gsa) THAT YtlbngnilfenaaaaProg.lean LOADS. Nothing in Lean hashes anything: it is a label: what it is worth is what the hold of that sum in a sandbox is worth. -/
noncomputable def Try.pinned : Pinned := { name := "ytlbngnilfenaaaa", sum := "b2f16de678f7ac25c06713bcd6ed7078d7ec909c32290c7ba92462a26d3f3bd3", checked := Try.checked }
namespace Rows
def none {H : Type} : Left H := { results := [], args := [] }

/-- 'coupletlaw17.WatchSafe': WHATEVER THE INPUT: true; the input reads as it did. -/
def watchSafeSpec : ChangeSpec := { name := "watchSafe", fn := fun _ => fun
  | [d1, d2] => { results := [.lit (.bool true)], args := [d1, d2] }
  | _ => none }
def watchSafeRow : OpenClaim := { program := "ytlbngnilfenaaaa", sum := "b2f16de678f7ac25c06713bcd6ed7078d7ec909c32290c7ba92462a26d3f3bd3", func := "couplet/coupletlaw17.WatchSafe", spec := "watchSafe", apart := false }
def WatchSafeSaid : Prop := watchSafeRow.holds Try.pinned (OpenSpec.ofChange watchSafeSpec)

/-- ITS FALSE NEIGHBOUR: 'it returns false'. Refute it at one input. -/
def watchSafeWrong : ChangeSpec := { name := "watchSafe", fn := fun _ => fun
  | [d1, d2] => { results := [.lit (.bool false)], args := [d1, d2] }
  | _ => none }
def WatchSafeWrongFalsely : Prop := watchSafeRow.holds Try.pinned (OpenSpec.ofChange watchSafeWrong)

/-- 'coupletlaw17.WatchPersists': WHATEVER THE INPUT: true; the input reads as it did. -/
def watchPersistsSpec : ChangeSpec := { name := "watchPersists", fn := fun _ => fun
  | [d1, d2] => { results := [.lit (.bool true)], args := [d1, d2] }
  | _ => none }
def watchPersistsRow : OpenClaim := { program := "ytlbngnilfenaaaa", sum := "b2f16de678f7ac25c06713bcd6ed7078d7ec909c32290c7ba92462a26d3f3bd3", func := "couplet/coupletlaw17.WatchPersists", spec := "watchPersists", apart := false }
def WatchPersistsSaid : Prop := watchPersistsRow.holds Try.pinned (OpenSpec.ofChange watchPersistsSpec)

/-- ITS FALSE NEIGHBOUR: 'it returns false'. Refute it at one input. -/
def watchPersistsWrong : ChangeSpec := { name := "watchPersists", fn := fun _ => fun
  | [d1, d2] => { results := [.lit (.bool false)], args := [d1, d2] }
  | _ => none }
def WatchPersistsWrongFalsely : Prop := watchPersistsRow.holds Try.pinned (OpenSpec.ofChange watchPersistsWrong)

/-- 'coupletlaw17.WatchFresh': WHATEVER THE INPUT: true; the input reads as it did. -/
def watchFreshSpec : ChangeSpec := { name := "watchFresh", fn := fun _ => fun
  | [d1, d2, d3, d4] => { results := [.lit (.bool true)], args := [d1, d2, d3, d4] }
  | _ => none }
def watchFreshRow : OpenClaim := { program := "ytlbngnilfenaaaa", sum := "b2f16de678f7ac25c06713bcd6ed7078d7ec909c32290c7ba92462a26d3f3bd3", func := "couplet/coupletlaw17.WatchFresh", spec := "watchFresh", unfollowed := true, recurses := true, apart := false }
def WatchFreshSaid : Prop := watchFreshRow.holds Try.pinned (OpenSpec.ofChange watchFreshSpec)

/-- ITS FALSE NEIGHBOUR: 'it returns false'. Refute it at one input. -/
def watchFreshWrong : ChangeSpec := { name := "watchFresh", fn := fun _ => fun
  | [d1, d2, d3, d4] => { results := [.lit (.bool false)], args := [d1, d2, d3, d4] }
  | _ => none }
def WatchFreshWrongFalsely : Prop := watchFreshRow.holds Try.pinned (OpenSpec.ofChange watchFreshWrong)

/-- 'coupletlaw17.WatchSteps': WHATEVER THE INPUT: true; the input reads as it did. -/
def watchStepsSpec : ChangeSpec := { name := "watchSteps", fn := fun _ => fun
  | [d1, d2] => { results := [.lit (.bool true)], args := [d1, d2] }
  | _ => none }
def watchStepsRow : OpenClaim := { program := "ytlbngnilfenaaaa", sum := "b2f16de678f7ac25c06713bcd6ed7078d7ec909c32290c7ba92462a26d3f3bd3", func := "couplet/coupletlaw17.WatchSteps", spec := "watchSteps", apart := false }
def WatchStepsSaid : Prop := watchStepsRow.holds Try.pinned (OpenSpec.ofChange watchStepsSpec)

/-- ITS FALSE NEIGHBOUR: 'it returns false'. Refute it at one input. -/
def watchStepsWrong : ChangeSpec := { name := "watchSteps", fn := fun _ => fun
  | [d1, d2] => { results := [.lit (.bool false)], args := [d1, d2] }
  | _ => none }
def WatchStepsWrongFalsely : Prop := watchStepsRow.holds Try.pinned (OpenSpec.ofChange watchStepsWrong)

/-- 'coupletlaw17.WatchLanes': WHATEVER THE INPUT: true; the input reads as it did. -/
def watchLanesSpec : ChangeSpec := { name := "watchLanes", fn := fun _ => fun
  | [d1, d2] => { results := [.lit (.bool true)], args := [d1, d2] }
  | _ => none }
def watchLanesRow : OpenClaim := { program := "ytlbngnilfenaaaa", sum := "b2f16de678f7ac25c06713bcd6ed7078d7ec909c32290c7ba92462a26d3f3bd3", func := "couplet/coupletlaw17.WatchLanes", spec := "watchLanes", apart := false }
def WatchLanesSaid : Prop := watchLanesRow.holds Try.pinned (OpenSpec.ofChange watchLanesSpec)

/-- ITS FALSE NEIGHBOUR: 'it returns false'. Refute it at one input. -/
def watchLanesWrong : ChangeSpec := { name := "watchLanes", fn := fun _ => fun
  | [d1, d2] => { results := [.lit (.bool false)], args := [d1, d2] }
  | _ => none }
def WatchLanesWrongFalsely : Prop := watchLanesRow.holds Try.pinned (OpenSpec.ofChange watchLanesWrong)

/- THE SECOND FORM. 'bulk': how many values and letters a reading holds, each counted each time it is reached (what is shared counts as often as it is met; a slice's spare places count too). A statement '..UptoSaid' is the law's where the arguments, and the package variables that the reading takes, are together of bulk at most 1048576: NARROWER than '..Said'. Prove '..Said' where nothing that the law and all that it calls make is longer than what came in: it says more and counts as full. Else prove '..UptoSaid'. A law counts once. -/
mutual
def uptoBulk {H : Type} : DataW H → Nat
  | .lit (.string bytes) => bytes.length + 1
  | .lit _ => 1
  | .nil => 1
  | .ptr d => uptoBulk d + 1
  | .slice elems spare => uptoBulkAll elems + uptoBulkAll spare + 1
  | .agg parts => uptoBulkAll parts + 1
  | .iface _ d => uptoBulk d + 1
  | .map entries => uptoBulkEntries entries + 1
  | .held _ => 1
def uptoBulkAll {H : Type} : List (DataW H) → Nat
  | [] => 0
  | d :: r => uptoBulk d + uptoBulkAll r
def uptoBulkEntries {H : Type} : List (Lit × DataW H) → Nat
  | [] => 0
  | x :: r => uptoBulkEntry x + uptoBulkEntries r
def uptoBulkEntry {H : Type} : Lit × DataW H → Nat
  | (.string bytes, d) => bytes.length + uptoBulk d + 1
  | (_, d) => uptoBulk d + 1
 end
def uptoSmall : (H : Type) → List (DataW H) → Bool := fun _ ds => decide (uptoBulkAll ds ≤ 1048576)
def OpenSpec.upto (s : _root_.Go.ChangeSpec) : _root_.Go.OpenSpec := { _root_.Go.OpenSpec.ofChange s with cond := some uptoSmall }

/-- 'coupletlaw17.WatchSafe', WHERE WHAT IT READS IS OF BULK AT MOST 1048576: true; the input reads as it did. -/
def watchSafeUptoRow : OpenClaim := { program := "ytlbngnilfenaaaa", sum := "b2f16de678f7ac25c06713bcd6ed7078d7ec909c32290c7ba92462a26d3f3bd3", func := "couplet/coupletlaw17.WatchSafe", spec := "watchSafe", apart := false, narrowed := true }
def WatchSafeUptoSaid : Prop := watchSafeUptoRow.holds Try.pinned (OpenSpec.upto watchSafeSpec)

/-- 'coupletlaw17.WatchPersists', WHERE WHAT IT READS IS OF BULK AT MOST 1048576: true; the input reads as it did. -/
def watchPersistsUptoRow : OpenClaim := { program := "ytlbngnilfenaaaa", sum := "b2f16de678f7ac25c06713bcd6ed7078d7ec909c32290c7ba92462a26d3f3bd3", func := "couplet/coupletlaw17.WatchPersists", spec := "watchPersists", apart := false, narrowed := true }
def WatchPersistsUptoSaid : Prop := watchPersistsUptoRow.holds Try.pinned (OpenSpec.upto watchPersistsSpec)

/-- 'coupletlaw17.WatchFresh', WHERE WHAT IT READS IS OF BULK AT MOST 1048576: true; the input reads as it did. -/
def watchFreshUptoRow : OpenClaim := { program := "ytlbngnilfenaaaa", sum := "b2f16de678f7ac25c06713bcd6ed7078d7ec909c32290c7ba92462a26d3f3bd3", func := "couplet/coupletlaw17.WatchFresh", spec := "watchFresh", unfollowed := true, recurses := true, apart := false, narrowed := true }
def WatchFreshUptoSaid : Prop := watchFreshUptoRow.holds Try.pinned (OpenSpec.upto watchFreshSpec)

/-- 'coupletlaw17.WatchSteps', WHERE WHAT IT READS IS OF BULK AT MOST 1048576: true; the input reads as it did. -/
def watchStepsUptoRow : OpenClaim := { program := "ytlbngnilfenaaaa", sum := "b2f16de678f7ac25c06713bcd6ed7078d7ec909c32290c7ba92462a26d3f3bd3", func := "couplet/coupletlaw17.WatchSteps", spec := "watchSteps", apart := false, narrowed := true }
def WatchStepsUptoSaid : Prop := watchStepsUptoRow.holds Try.pinned (OpenSpec.upto watchStepsSpec)

/-- 'coupletlaw17.WatchLanes', WHERE WHAT IT READS IS OF BULK AT MOST 1048576: true; the input reads as it did. -/
def watchLanesUptoRow : OpenClaim := { program := "ytlbngnilfenaaaa", sum := "b2f16de678f7ac25c06713bcd6ed7078d7ec909c32290c7ba92462a26d3f3bd3", func := "couplet/coupletlaw17.WatchLanes", spec := "watchLanes", apart := false, narrowed := true }
def WatchLanesUptoSaid : Prop := watchLanesUptoRow.holds Try.pinned (OpenSpec.upto watchLanesSpec)

end Rows
end Go.Proofs.Ytlbngnilfenaaaa
