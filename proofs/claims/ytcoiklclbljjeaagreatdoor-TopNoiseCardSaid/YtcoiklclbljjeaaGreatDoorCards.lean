/-
  DERIVED. GIVEN WITH THE SEED: THE CARDS: each row of YtcoiklclbljjeaaGreatDoorRows.lean that lists a variable, with what it lists TIED to the program's text (the seventh form; the later family's looks); each row that meets fmt, with fmt's text TOLD by the authors' own Lean function (tested against real Go, not proved from fmt's source: count such statements apart). THE CARD IS WHAT COUNTS. Prove the row's statement (the work); the ties are given (YtcoiklclbljjeaaGreatDoorTie.lean); close each card by the builder's one call (the guide's Derived/Test/ToyasCard.lean, 'card_holds'). Laid BY PROGRAM, IN A SANDBOX (cutbox-door.mjs). By AI agents, Wed Nov 11 2026. No macro, syntax, notation, axiom, sorry.
-/
import Derived.Test.YtcoiklclbljjeaaGreatDoorRows
import GoSem.ClaimSeven
namespace Go.Proofs.YtcoiklclbljjeaaGreatDoor
namespace Rows

/-- THE TIED CARD OF 'couplettop.TopEncloses'. -/
def topEnclosesCard : Claim7 := { stood := { row := topEnclosesRow, standIns := [], harness := (true, "9c20bbb3ee882634846ceb290623064a1e83d8c54bb993f8e1d0fe3375e94782"), looks := false }, kinds := [], alts := [], laidByText := true, laidKinds := [.data], laidTests := true, laidLooks := .later }
def TopEnclosesCardSaid : Prop := Claim7.holds Tryz.pinned (.plain (OpenSpec.ofChange topEnclosesSpec)) topEnclosesCard

/-- THE TIED CARD OF 'couplettop.TopCalm'. -/
def topCalmCard : Claim7 := { stood := { row := topCalmRow, standIns := [], harness := (true, "9c20bbb3ee882634846ceb290623064a1e83d8c54bb993f8e1d0fe3375e94782"), looks := false }, kinds := [], alts := [], laidByText := true, laidKinds := [.data], laidTests := true, laidLooks := .later }
def TopCalmCardSaid : Prop := Claim7.holds Tryz.pinned (.plain (OpenSpec.ofChange topCalmSpec)) topCalmCard

/-- THE TIED CARD OF 'couplettop.TopNoise'. -/
def topNoiseCard : Claim7 := { stood := { row := topNoiseRow, standIns := [], harness := (true, "9c20bbb3ee882634846ceb290623064a1e83d8c54bb993f8e1d0fe3375e94782"), looks := false }, kinds := [], alts := [], laidByText := true, laidKinds := [.data], laidTests := true, laidLooks := .later }
def TopNoiseCardSaid : Prop := Claim7.holds Tryz.pinned (.plain (OpenSpec.ofChange topNoiseSpec)) topNoiseCard

/-- THE SECOND FORM's CARD OF 'couplettop.TopEncloses'. -/
def topEnclosesUptoCard : Claim7 := { stood := { row := topEnclosesUptoRow, standIns := [], harness := (true, "9c20bbb3ee882634846ceb290623064a1e83d8c54bb993f8e1d0fe3375e94782"), looks := false }, kinds := [], alts := [], laidByText := true, laidKinds := [.data], laidTests := true, laidLooks := .later }
def TopEnclosesUptoCardSaid : Prop := Claim7.holds Tryz.pinned (.plain (OpenSpec.upto topEnclosesSpec)) topEnclosesUptoCard

/-- THE SECOND FORM's CARD OF 'couplettop.TopCalm'. -/
def topCalmUptoCard : Claim7 := { stood := { row := topCalmUptoRow, standIns := [], harness := (true, "9c20bbb3ee882634846ceb290623064a1e83d8c54bb993f8e1d0fe3375e94782"), looks := false }, kinds := [], alts := [], laidByText := true, laidKinds := [.data], laidTests := true, laidLooks := .later }
def TopCalmUptoCardSaid : Prop := Claim7.holds Tryz.pinned (.plain (OpenSpec.upto topCalmSpec)) topCalmUptoCard

/-- THE SECOND FORM's CARD OF 'couplettop.TopNoise'. -/
def topNoiseUptoCard : Claim7 := { stood := { row := topNoiseUptoRow, standIns := [], harness := (true, "9c20bbb3ee882634846ceb290623064a1e83d8c54bb993f8e1d0fe3375e94782"), looks := false }, kinds := [], alts := [], laidByText := true, laidKinds := [.data], laidTests := true, laidLooks := .later }
def TopNoiseUptoCardSaid : Prop := Claim7.holds Tryz.pinned (.plain (OpenSpec.upto topNoiseSpec)) topNoiseUptoCard
end Rows
end Go.Proofs.YtcoiklclbljjeaaGreatDoor
