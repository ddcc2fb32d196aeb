/-
  DERIVED. GIVEN WITH THE SEED: THE CARDS: each row of YtmoidifdbpjinaaDoorRows.lean that lists a variable, with what it lists TIED to the program's text (the seventh form; the later family's looks); each row that meets fmt, with fmt's text TOLD by the authors' own Lean function (tested against real Go, not proved from fmt's source: count such statements apart). THE CARD IS WHAT COUNTS. Prove the row's statement (the work); the ties are given (YtmoidifdbpjinaaDoorTie.lean); close each card by the builder's one call (the guide's Derived/Test/ToyasCard.lean, 'card_holds'). Laid BY PROGRAM, IN A SANDBOX (cutbox-door.mjs). By AI agents, Wed Nov 11 2026. No macro, syntax, notation, axiom, sorry.
-/
import Derived.Test.YtmoidifdbpjinaaDoorRows
import GoSem.ClaimSeven
namespace Go.Proofs.YtmoidifdbpjinaaDoor
namespace Rows

/-- THE TIED CARD OF 'coupletlaw11.SumOf'. -/
def sumOfCard : Claim7 := { stood := { row := sumOfRow, standIns := [], harness := (true, "85fee00e0baca5d0025905adf0ef6d09da0cb771a0d487c7479d286519eb39d1"), looks := false }, kinds := [], alts := [], laidByText := true, laidKinds := [.data], laidTests := true, laidLooks := .later }
def SumOfCardSaid : Prop := Claim7.holds Tryd.pinned (.plain (OpenSpec.ofChange sumOfSpec)) sumOfCard

/-- THE TIED CARD OF 'coupletlaw11.SumGoesOn'. -/
def sumGoesOnCard : Claim7 := { stood := { row := sumGoesOnRow, standIns := [], harness := (true, "85fee00e0baca5d0025905adf0ef6d09da0cb771a0d487c7479d286519eb39d1"), looks := false }, kinds := [], alts := [], laidByText := true, laidKinds := [.data], laidTests := true, laidLooks := .later }
def SumGoesOnCardSaid : Prop := Claim7.holds Tryd.pinned (.plain (OpenSpec.ofChange sumGoesOnSpec)) sumGoesOnCard

/-- THE TIED CARD OF 'coupletlaw11.SumTurned'. -/
def sumTurnedCard : Claim7 := { stood := { row := sumTurnedRow, standIns := [], harness := (true, "85fee00e0baca5d0025905adf0ef6d09da0cb771a0d487c7479d286519eb39d1"), looks := false }, kinds := [], alts := [], laidByText := true, laidKinds := [.data], laidTests := true, laidLooks := .later }
def SumTurnedCardSaid : Prop := Claim7.holds Tryd.pinned (.plain (OpenSpec.ofChange sumTurnedSpec)) sumTurnedCard

/-- THE TIED CARD OF 'coupletlaw11.SumResidue'. -/
def sumResidueCard : Claim7 := { stood := { row := sumResidueRow, standIns := [], harness := (true, "85fee00e0baca5d0025905adf0ef6d09da0cb771a0d487c7479d286519eb39d1"), looks := false }, kinds := [], alts := [], laidByText := true, laidKinds := [.data], laidTests := true, laidLooks := .later }
def SumResidueCardSaid : Prop := Claim7.holds Tryd.pinned (.plain (OpenSpec.ofChange sumResidueSpec)) sumResidueCard

/-- THE TIED CARD OF 'coupletlaw11.SumLike'. -/
def sumLikeCard : Claim7 := { stood := { row := sumLikeRow, standIns := [], harness := (true, "85fee00e0baca5d0025905adf0ef6d09da0cb771a0d487c7479d286519eb39d1"), looks := false }, kinds := [], alts := [], laidByText := true, laidKinds := [.data], laidTests := true, laidLooks := .later }
def SumLikeCardSaid : Prop := Claim7.holds Tryd.pinned (.plain (OpenSpec.ofChange sumLikeSpec)) sumLikeCard

/-- THE SECOND FORM's CARD OF 'coupletlaw11.SumOf'. -/
def sumOfUptoCard : Claim7 := { stood := { row := sumOfUptoRow, standIns := [], harness := (true, "85fee00e0baca5d0025905adf0ef6d09da0cb771a0d487c7479d286519eb39d1"), looks := false }, kinds := [], alts := [], laidByText := true, laidKinds := [.data], laidTests := true, laidLooks := .later }
def SumOfUptoCardSaid : Prop := Claim7.holds Tryd.pinned (.plain (OpenSpec.upto sumOfSpec)) sumOfUptoCard

/-- THE SECOND FORM's CARD OF 'coupletlaw11.SumGoesOn'. -/
def sumGoesOnUptoCard : Claim7 := { stood := { row := sumGoesOnUptoRow, standIns := [], harness := (true, "85fee00e0baca5d0025905adf0ef6d09da0cb771a0d487c7479d286519eb39d1"), looks := false }, kinds := [], alts := [], laidByText := true, laidKinds := [.data], laidTests := true, laidLooks := .later }
def SumGoesOnUptoCardSaid : Prop := Claim7.holds Tryd.pinned (.plain (OpenSpec.upto sumGoesOnSpec)) sumGoesOnUptoCard

/-- THE SECOND FORM's CARD OF 'coupletlaw11.SumTurned'. -/
def sumTurnedUptoCard : Claim7 := { stood := { row := sumTurnedUptoRow, standIns := [], harness := (true, "85fee00e0baca5d0025905adf0ef6d09da0cb771a0d487c7479d286519eb39d1"), looks := false }, kinds := [], alts := [], laidByText := true, laidKinds := [.data], laidTests := true, laidLooks := .later }
def SumTurnedUptoCardSaid : Prop := Claim7.holds Tryd.pinned (.plain (OpenSpec.upto sumTurnedSpec)) sumTurnedUptoCard

/-- THE SECOND FORM's CARD OF 'coupletlaw11.SumResidue'. -/
def sumResidueUptoCard : Claim7 := { stood := { row := sumResidueUptoRow, standIns := [], harness := (true, "85fee00e0baca5d0025905adf0ef6d09da0cb771a0d487c7479d286519eb39d1"), looks := false }, kinds := [], alts := [], laidByText := true, laidKinds := [.data], laidTests := true, laidLooks := .later }
def SumResidueUptoCardSaid : Prop := Claim7.holds Tryd.pinned (.plain (OpenSpec.upto sumResidueSpec)) sumResidueUptoCard

/-- THE SECOND FORM's CARD OF 'coupletlaw11.SumLike'. -/
def sumLikeUptoCard : Claim7 := { stood := { row := sumLikeUptoRow, standIns := [], harness := (true, "85fee00e0baca5d0025905adf0ef6d09da0cb771a0d487c7479d286519eb39d1"), looks := false }, kinds := [], alts := [], laidByText := true, laidKinds := [.data], laidTests := true, laidLooks := .later }
def SumLikeUptoCardSaid : Prop := Claim7.holds Tryd.pinned (.plain (OpenSpec.upto sumLikeSpec)) sumLikeUptoCard
end Rows
end Go.Proofs.YtmoidifdbpjinaaDoor
