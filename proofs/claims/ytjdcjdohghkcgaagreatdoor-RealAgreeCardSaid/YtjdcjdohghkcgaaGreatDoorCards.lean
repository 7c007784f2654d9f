/-
  DERIVED. GIVEN WITH THE SEED: THE CARDS: each row of YtjdcjdohghkcgaaGreatDoorRows.lean that lists a variable, with what it lists TIED to the program's text (the seventh form; the later family's looks); each row that meets fmt, with fmt's text TOLD by the authors' own Lean function (tested against real Go, not proved from fmt's source: count such statements apart). THE CARD IS WHAT COUNTS. Prove the row's statement (the work); the ties are given (YtjdcjdohghkcgaaGreatDoorTie.lean); close each card by the builder's one call (the guide's Derived/Test/ToyasCard.lean, 'card_holds'). Laid BY PROGRAM, IN A SANDBOX (cutbox-door.mjs). By AI agents, Wed Nov 11 2026. No macro, syntax, notation, axiom, sorry.
-/
import Derived.Test.YtjdcjdohghkcgaaGreatDoorRows
import GoSem.ClaimSeven
namespace Go.Proofs.YtjdcjdohghkcgaaGreatDoor
namespace Rows

/-- THE TIED CARD OF 'screelaw08.CodeChecks'. -/
def codeChecksCard : Claim7 := { stood := { row := codeChecksRow, standIns := [], harness := (true, "e950fa0e366062643af1811e13185c68b5f0eedf0afaa8850c79712a4d17c350"), looks := true }, kinds := [], alts := [], laidByText := true, laidKinds := [.data, .data, .widerDeep, .widerDeep, .data, .data, .data, .data, .data, .sentinel, .sentinel, .pinned, .pinned], laidTests := true, laidLooks := .later }
def CodeChecksCardSaid : Prop := Claim7.holds Tryz.pinned (.plain (OpenSpec.ofChange codeChecksSpec)) codeChecksCard

/-- THE TIED CARD OF 'screelaw03.RealParses'. -/
def realParsesCard : Claim7 := { stood := { row := realParsesRow, standIns := [], harness := (true, "e950fa0e366062643af1811e13185c68b5f0eedf0afaa8850c79712a4d17c350"), looks := true }, kinds := [], alts := [], laidByText := true, laidKinds := [.data, .data, .widerDeep, .widerDeep, .data, .data, .data, .data, .data, .sentinel, .sentinel, .pinned, .pinned], laidTests := true, laidLooks := .later }
def RealParsesCardSaid : Prop := Claim7.holds Tryz.pinned (.plain (OpenSpec.ofChange realParsesSpec)) realParsesCard

/-- THE TIED CARD OF 'screelaw03.RealBack'. -/
def realBackCard : Claim7 := { stood := { row := realBackRow, standIns := [], harness := (true, "e950fa0e366062643af1811e13185c68b5f0eedf0afaa8850c79712a4d17c350"), looks := true }, kinds := [], alts := [], laidByText := true, laidKinds := [.data, .data, .widerDeep, .widerDeep, .data, .data, .data, .data, .data, .sentinel, .sentinel, .pinned, .pinned], laidTests := true, laidLooks := .later }
def RealBackCardSaid : Prop := Claim7.holds Tryz.pinned (.plain (OpenSpec.ofChange realBackSpec)) realBackCard

/-- THE TIED CARD OF 'screelaw03.RealWholes'. -/
def realWholesCard : Claim7 := { stood := { row := realWholesRow, standIns := [], harness := (true, "e950fa0e366062643af1811e13185c68b5f0eedf0afaa8850c79712a4d17c350"), looks := true }, kinds := [], alts := [], laidByText := true, laidKinds := [.data, .data, .widerDeep, .widerDeep, .data, .data, .data, .data, .data, .sentinel, .sentinel, .pinned, .pinned], laidTests := true, laidLooks := .later }
def RealWholesCardSaid : Prop := Claim7.holds Tryz.pinned (.plain (OpenSpec.ofChange realWholesSpec)) realWholesCard

/-- THE TIED CARD OF 'screelaw03.RealNear'. -/
def realNearCard : Claim7 := { stood := { row := realNearRow, standIns := [], harness := (true, "e950fa0e366062643af1811e13185c68b5f0eedf0afaa8850c79712a4d17c350"), looks := true }, kinds := [], alts := [], laidByText := true, laidKinds := [.data, .data, .widerDeep, .widerDeep, .data, .data, .data, .data, .data, .sentinel, .sentinel, .pinned, .pinned], laidTests := true, laidLooks := .later }
def RealNearCardSaid : Prop := Claim7.holds Tryz.pinned (.plain (OpenSpec.ofChange realNearSpec)) realNearCard

/-- THE TIED CARD OF 'screelaw03.RealAgree'. -/
def realAgreeCard : Claim7 := { stood := { row := realAgreeRow, standIns := [], harness := (true, "e950fa0e366062643af1811e13185c68b5f0eedf0afaa8850c79712a4d17c350"), looks := true }, kinds := [], alts := [], laidByText := true, laidKinds := [.data, .data, .widerDeep, .widerDeep, .data, .data, .data, .data, .data, .sentinel, .sentinel, .pinned, .pinned], laidTests := true, laidLooks := .later }
def RealAgreeCardSaid : Prop := Claim7.holds Tryz.pinned (.plain (OpenSpec.ofChange realAgreeSpec)) realAgreeCard

/-- THE SECOND FORM's CARD OF 'screelaw08.CodeChecks'. -/
def codeChecksUptoCard : Claim7 := { stood := { row := codeChecksUptoRow, standIns := [], harness := (true, "e950fa0e366062643af1811e13185c68b5f0eedf0afaa8850c79712a4d17c350"), looks := true }, kinds := [], alts := [], laidByText := true, laidKinds := [.data, .data, .widerDeep, .widerDeep, .data, .data, .data, .data, .data, .sentinel, .sentinel, .pinned, .pinned], laidTests := true, laidLooks := .later }
def CodeChecksUptoCardSaid : Prop := Claim7.holds Tryz.pinned (.plain (OpenSpec.upto codeChecksSpec)) codeChecksUptoCard

/-- THE SECOND FORM's CARD OF 'screelaw03.RealParses'. -/
def realParsesUptoCard : Claim7 := { stood := { row := realParsesUptoRow, standIns := [], harness := (true, "e950fa0e366062643af1811e13185c68b5f0eedf0afaa8850c79712a4d17c350"), looks := true }, kinds := [], alts := [], laidByText := true, laidKinds := [.data, .data, .widerDeep, .widerDeep, .data, .data, .data, .data, .data, .sentinel, .sentinel, .pinned, .pinned], laidTests := true, laidLooks := .later }
def RealParsesUptoCardSaid : Prop := Claim7.holds Tryz.pinned (.plain (OpenSpec.upto realParsesSpec)) realParsesUptoCard

/-- THE SECOND FORM's CARD OF 'screelaw03.RealBack'. -/
def realBackUptoCard : Claim7 := { stood := { row := realBackUptoRow, standIns := [], harness := (true, "e950fa0e366062643af1811e13185c68b5f0eedf0afaa8850c79712a4d17c350"), looks := true }, kinds := [], alts := [], laidByText := true, laidKinds := [.data, .data, .widerDeep, .widerDeep, .data, .data, .data, .data, .data, .sentinel, .sentinel, .pinned, .pinned], laidTests := true, laidLooks := .later }
def RealBackUptoCardSaid : Prop := Claim7.holds Tryz.pinned (.plain (OpenSpec.upto realBackSpec)) realBackUptoCard

/-- THE SECOND FORM's CARD OF 'screelaw03.RealWholes'. -/
def realWholesUptoCard : Claim7 := { stood := { row := realWholesUptoRow, standIns := [], harness := (true, "e950fa0e366062643af1811e13185c68b5f0eedf0afaa8850c79712a4d17c350"), looks := true }, kinds := [], alts := [], laidByText := true, laidKinds := [.data, .data, .widerDeep, .widerDeep, .data, .data, .data, .data, .data, .sentinel, .sentinel, .pinned, .pinned], laidTests := true, laidLooks := .later }
def RealWholesUptoCardSaid : Prop := Claim7.holds Tryz.pinned (.plain (OpenSpec.upto realWholesSpec)) realWholesUptoCard

/-- THE SECOND FORM's CARD OF 'screelaw03.RealNear'. -/
def realNearUptoCard : Claim7 := { stood := { row := realNearUptoRow, standIns := [], harness := (true, "e950fa0e366062643af1811e13185c68b5f0eedf0afaa8850c79712a4d17c350"), looks := true }, kinds := [], alts := [], laidByText := true, laidKinds := [.data, .data, .widerDeep, .widerDeep, .data, .data, .data, .data, .data, .sentinel, .sentinel, .pinned, .pinned], laidTests := true, laidLooks := .later }
def RealNearUptoCardSaid : Prop := Claim7.holds Tryz.pinned (.plain (OpenSpec.upto realNearSpec)) realNearUptoCard

/-- THE SECOND FORM's CARD OF 'screelaw03.RealAgree'. -/
def realAgreeUptoCard : Claim7 := { stood := { row := realAgreeUptoRow, standIns := [], harness := (true, "e950fa0e366062643af1811e13185c68b5f0eedf0afaa8850c79712a4d17c350"), looks := true }, kinds := [], alts := [], laidByText := true, laidKinds := [.data, .data, .widerDeep, .widerDeep, .data, .data, .data, .data, .data, .sentinel, .sentinel, .pinned, .pinned], laidTests := true, laidLooks := .later }
def RealAgreeUptoCardSaid : Prop := Claim7.holds Tryz.pinned (.plain (OpenSpec.upto realAgreeSpec)) realAgreeUptoCard
end Rows
end Go.Proofs.YtjdcjdohghkcgaaGreatDoor
