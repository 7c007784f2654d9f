/-
  DERIVED. GIVEN WITH THE SEED: THE CARDS: each row of YtmnmebdmpigddaaGreatDoorRows.lean that lists a variable, with what it lists TIED to the program's text (the seventh form; the later family's looks); each row that meets fmt, with fmt's text TOLD by the authors' own Lean function (tested against real Go, not proved from fmt's source: count such statements apart). THE CARD IS WHAT COUNTS. Prove the row's statement (the work); the ties are given (YtmnmebdmpigddaaGreatDoorTie.lean); close each card by the builder's one call (the guide's Derived/Test/ToyasCard.lean, 'card_holds'). Laid BY PROGRAM, IN A SANDBOX (cutbox-door.mjs). By AI agents, Wed Nov 11 2026. No macro, syntax, notation, axiom, sorry.
-/
import Derived.Test.YtmnmebdmpigddaaGreatDoorRows
import GoSem.ClaimSeven
namespace Go.Proofs.YtmnmebdmpigddaaGreatDoor
namespace Rows

/-- THE TIED CARD OF 'screelaw15.PlainBins'. -/
def plainBinsCard : Claim7 := { stood := { row := plainBinsRow, standIns := [], harness := (true, "219b18ad09e681085f9b1e824a1c91b40806ba635da49a7da638b3f6ab3331a4"), looks := true }, kinds := [], alts := [], laidByText := true, laidKinds := [.data, .data, .widerDeep, .widerDeep, .data, .data, .data, .data, .data, .sentinel, .sentinel, .pinned, .pinned], laidTests := true, laidLooks := .later }
def PlainBinsCardSaid : Prop := Claim7.holds Tryz.pinned (.plain (OpenSpec.ofChange plainBinsSpec)) plainBinsCard

/-- THE TIED CARD OF 'screelaw15.PlainLaws'. -/
def plainLawsCard : Claim7 := { stood := { row := plainLawsRow, standIns := [], harness := (true, "219b18ad09e681085f9b1e824a1c91b40806ba635da49a7da638b3f6ab3331a4"), looks := true }, kinds := [], alts := [], laidByText := true, laidKinds := [.data, .data, .widerDeep, .widerDeep, .data, .data, .data, .data, .data, .sentinel, .sentinel, .pinned, .pinned], laidTests := true, laidLooks := .later }
def PlainLawsCardSaid : Prop := Claim7.holds Tryz.pinned (.plain (OpenSpec.ofChange plainLawsSpec)) plainLawsCard

/-- THE TIED CARD OF 'screelaw15.PlainTurns'. -/
def plainTurnsCard : Claim7 := { stood := { row := plainTurnsRow, standIns := [], harness := (true, "219b18ad09e681085f9b1e824a1c91b40806ba635da49a7da638b3f6ab3331a4"), looks := true }, kinds := [], alts := [], laidByText := true, laidKinds := [.data, .data, .widerDeep, .widerDeep, .data, .data, .data, .data, .data, .sentinel, .sentinel, .pinned, .pinned], laidTests := true, laidLooks := .later }
def PlainTurnsCardSaid : Prop := Claim7.holds Tryz.pinned (.plain (OpenSpec.ofChange plainTurnsSpec)) plainTurnsCard

/-- THE SECOND FORM's CARD OF 'screelaw15.PlainBins'. -/
def plainBinsUptoCard : Claim7 := { stood := { row := plainBinsUptoRow, standIns := [], harness := (true, "219b18ad09e681085f9b1e824a1c91b40806ba635da49a7da638b3f6ab3331a4"), looks := true }, kinds := [], alts := [], laidByText := true, laidKinds := [.data, .data, .widerDeep, .widerDeep, .data, .data, .data, .data, .data, .sentinel, .sentinel, .pinned, .pinned], laidTests := true, laidLooks := .later }
def PlainBinsUptoCardSaid : Prop := Claim7.holds Tryz.pinned (.plain (OpenSpec.upto plainBinsSpec)) plainBinsUptoCard

/-- THE SECOND FORM's CARD OF 'screelaw15.PlainLaws'. -/
def plainLawsUptoCard : Claim7 := { stood := { row := plainLawsUptoRow, standIns := [], harness := (true, "219b18ad09e681085f9b1e824a1c91b40806ba635da49a7da638b3f6ab3331a4"), looks := true }, kinds := [], alts := [], laidByText := true, laidKinds := [.data, .data, .widerDeep, .widerDeep, .data, .data, .data, .data, .data, .sentinel, .sentinel, .pinned, .pinned], laidTests := true, laidLooks := .later }
def PlainLawsUptoCardSaid : Prop := Claim7.holds Tryz.pinned (.plain (OpenSpec.upto plainLawsSpec)) plainLawsUptoCard

/-- THE SECOND FORM's CARD OF 'screelaw15.PlainTurns'. -/
def plainTurnsUptoCard : Claim7 := { stood := { row := plainTurnsUptoRow, standIns := [], harness := (true, "219b18ad09e681085f9b1e824a1c91b40806ba635da49a7da638b3f6ab3331a4"), looks := true }, kinds := [], alts := [], laidByText := true, laidKinds := [.data, .data, .widerDeep, .widerDeep, .data, .data, .data, .data, .data, .sentinel, .sentinel, .pinned, .pinned], laidTests := true, laidLooks := .later }
def PlainTurnsUptoCardSaid : Prop := Claim7.holds Tryz.pinned (.plain (OpenSpec.upto plainTurnsSpec)) plainTurnsUptoCard
end Rows
end Go.Proofs.YtmnmebdmpigddaaGreatDoor
