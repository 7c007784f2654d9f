/-
  DERIVED. GIVEN WITH THE SEED: THE CARDS: each row of YtljndllhmdpjlaaGreatDoorRows.lean that lists a variable, with what it lists TIED to the program's text (the seventh form; the later family's looks); each row that meets fmt, with fmt's text TOLD by the authors' own Lean function (tested against real Go, not proved from fmt's source: count such statements apart). THE CARD IS WHAT COUNTS. Prove the row's statement (the work); the ties are given (YtljndllhmdpjlaaGreatDoorTie.lean); close each card by the builder's one call (the guide's Derived/Test/ToyasCard.lean, 'card_holds'). Laid BY PROGRAM, IN A SANDBOX (cutbox-door.mjs). By AI agents, Wed Nov 11 2026. No macro, syntax, notation, axiom, sorry.
-/
import Derived.Test.YtljndllhmdpjlaaGreatDoorRows
import GoSem.ClaimSeven
namespace Go.Proofs.YtljndllhmdpjlaaGreatDoor
namespace Rows

/-- THE TIED CARD OF 'screelaw03.RealParses'. -/
def realParsesCard : Claim7 := { stood := { row := realParsesRow, standIns := [], harness := (true, "9412e65df77020d476de961d8fe04d982db495716c5205bd412f3bd598488dbb"), looks := true }, kinds := [], alts := [], laidByText := true, laidKinds := [.data, .data, .widerDeep, .widerDeep, .data, .data, .data, .data, .data, .sentinel, .sentinel, .pinned, .pinned], laidTests := true, laidLooks := .later }
def RealParsesCardSaid : Prop := Claim7.holds Tryz.pinned (.plain (OpenSpec.ofChange realParsesSpec)) realParsesCard

/-- THE TIED CARD OF 'screelaw03.RealBack'. -/
def realBackCard : Claim7 := { stood := { row := realBackRow, standIns := [], harness := (true, "9412e65df77020d476de961d8fe04d982db495716c5205bd412f3bd598488dbb"), looks := true }, kinds := [], alts := [], laidByText := true, laidKinds := [.data, .data, .widerDeep, .widerDeep, .data, .data, .data, .data, .data, .sentinel, .sentinel, .pinned, .pinned], laidTests := true, laidLooks := .later }
def RealBackCardSaid : Prop := Claim7.holds Tryz.pinned (.plain (OpenSpec.ofChange realBackSpec)) realBackCard

/-- THE TIED CARD OF 'screelaw03.RealFloors'. -/
def realFloorsCard : Claim7 := { stood := { row := realFloorsRow, standIns := [], harness := (true, "9412e65df77020d476de961d8fe04d982db495716c5205bd412f3bd598488dbb"), looks := true }, kinds := [], alts := [], laidByText := true, laidKinds := [.data, .data, .widerDeep, .widerDeep, .data, .data, .data, .data, .data, .sentinel, .sentinel, .pinned, .pinned], laidTests := true, laidLooks := .later }
def RealFloorsCardSaid : Prop := Claim7.holds Tryz.pinned (.plain (OpenSpec.ofChange realFloorsSpec)) realFloorsCard

/-- THE TIED CARD OF 'screelaw03.RealSums'. -/
def realSumsCard : Claim7 := { stood := { row := realSumsRow, standIns := [], harness := (true, "9412e65df77020d476de961d8fe04d982db495716c5205bd412f3bd598488dbb"), looks := true }, kinds := [], alts := [], laidByText := true, laidKinds := [.data, .data, .widerDeep, .widerDeep, .data, .data, .data, .data, .data, .sentinel, .sentinel, .pinned, .pinned], laidTests := true, laidLooks := .later }
def RealSumsCardSaid : Prop := Claim7.holds Tryz.pinned (.plain (OpenSpec.ofChange realSumsSpec)) realSumsCard

/-- THE TIED CARD OF 'screelaw03.RealEdges'. -/
def realEdgesCard : Claim7 := { stood := { row := realEdgesRow, standIns := [], harness := (true, "9412e65df77020d476de961d8fe04d982db495716c5205bd412f3bd598488dbb"), looks := true }, kinds := [], alts := [], laidByText := true, laidKinds := [.data, .data, .widerDeep, .widerDeep, .data, .data, .data, .data, .data, .sentinel, .sentinel, .pinned, .pinned], laidTests := true, laidLooks := .later }
def RealEdgesCardSaid : Prop := Claim7.holds Tryz.pinned (.plain (OpenSpec.ofChange realEdgesSpec)) realEdgesCard

/-- THE TIED CARD OF 'screelaw03.RealHashes'. -/
def realHashesCard : Claim7 := { stood := { row := realHashesRow, standIns := [], harness := (true, "9412e65df77020d476de961d8fe04d982db495716c5205bd412f3bd598488dbb"), looks := true }, kinds := [], alts := [], laidByText := true, laidKinds := [.data, .data, .widerDeep, .widerDeep, .data, .data, .data, .data, .data, .sentinel, .sentinel, .pinned, .pinned], laidTests := true, laidLooks := .later }
def RealHashesCardSaid : Prop := Claim7.holds Tryz.pinned (.plain (OpenSpec.ofChange realHashesSpec)) realHashesCard

/-- THE TIED CARD OF 'screelaw03.RealWholes'. -/
def realWholesCard : Claim7 := { stood := { row := realWholesRow, standIns := [], harness := (true, "9412e65df77020d476de961d8fe04d982db495716c5205bd412f3bd598488dbb"), looks := true }, kinds := [], alts := [], laidByText := true, laidKinds := [.data, .data, .widerDeep, .widerDeep, .data, .data, .data, .data, .data, .sentinel, .sentinel, .pinned, .pinned], laidTests := true, laidLooks := .later }
def RealWholesCardSaid : Prop := Claim7.holds Tryz.pinned (.plain (OpenSpec.ofChange realWholesSpec)) realWholesCard

/-- THE TIED CARD OF 'screelaw03.RealOrders'. -/
def realOrdersCard : Claim7 := { stood := { row := realOrdersRow, standIns := [], harness := (true, "9412e65df77020d476de961d8fe04d982db495716c5205bd412f3bd598488dbb"), looks := true }, kinds := [], alts := [], laidByText := true, laidKinds := [.data, .data, .widerDeep, .widerDeep, .data, .data, .data, .data, .data, .sentinel, .sentinel, .pinned, .pinned], laidTests := true, laidLooks := .later }
def RealOrdersCardSaid : Prop := Claim7.holds Tryz.pinned (.plain (OpenSpec.ofChange realOrdersSpec)) realOrdersCard

/-- THE TIED CARD OF 'screelaw03.RealRests'. -/
def realRestsCard : Claim7 := { stood := { row := realRestsRow, standIns := [], harness := (true, "9412e65df77020d476de961d8fe04d982db495716c5205bd412f3bd598488dbb"), looks := true }, kinds := [], alts := [], laidByText := true, laidKinds := [.data, .data, .widerDeep, .widerDeep, .data, .data, .data, .data, .data, .sentinel, .sentinel, .pinned, .pinned], laidTests := true, laidLooks := .later }
def RealRestsCardSaid : Prop := Claim7.holds Tryz.pinned (.plain (OpenSpec.ofChange realRestsSpec)) realRestsCard

/-- THE TIED CARD OF 'screelaw03.RealNear'. -/
def realNearCard : Claim7 := { stood := { row := realNearRow, standIns := [], harness := (true, "9412e65df77020d476de961d8fe04d982db495716c5205bd412f3bd598488dbb"), looks := true }, kinds := [], alts := [], laidByText := true, laidKinds := [.data, .data, .widerDeep, .widerDeep, .data, .data, .data, .data, .data, .sentinel, .sentinel, .pinned, .pinned], laidTests := true, laidLooks := .later }
def RealNearCardSaid : Prop := Claim7.holds Tryz.pinned (.plain (OpenSpec.ofChange realNearSpec)) realNearCard

/-- THE TIED CARD OF 'screelaw03.RealAgree'. -/
def realAgreeCard : Claim7 := { stood := { row := realAgreeRow, standIns := [], harness := (true, "9412e65df77020d476de961d8fe04d982db495716c5205bd412f3bd598488dbb"), looks := true }, kinds := [], alts := [], laidByText := true, laidKinds := [.data, .data, .widerDeep, .widerDeep, .data, .data, .data, .data, .data, .sentinel, .sentinel, .pinned, .pinned], laidTests := true, laidLooks := .later }
def RealAgreeCardSaid : Prop := Claim7.holds Tryz.pinned (.plain (OpenSpec.ofChange realAgreeSpec)) realAgreeCard

/-- THE SECOND FORM's CARD OF 'screelaw03.RealParses'. -/
def realParsesUptoCard : Claim7 := { stood := { row := realParsesUptoRow, standIns := [], harness := (true, "9412e65df77020d476de961d8fe04d982db495716c5205bd412f3bd598488dbb"), looks := true }, kinds := [], alts := [], laidByText := true, laidKinds := [.data, .data, .widerDeep, .widerDeep, .data, .data, .data, .data, .data, .sentinel, .sentinel, .pinned, .pinned], laidTests := true, laidLooks := .later }
def RealParsesUptoCardSaid : Prop := Claim7.holds Tryz.pinned (.plain (OpenSpec.upto realParsesSpec)) realParsesUptoCard

/-- THE SECOND FORM's CARD OF 'screelaw03.RealBack'. -/
def realBackUptoCard : Claim7 := { stood := { row := realBackUptoRow, standIns := [], harness := (true, "9412e65df77020d476de961d8fe04d982db495716c5205bd412f3bd598488dbb"), looks := true }, kinds := [], alts := [], laidByText := true, laidKinds := [.data, .data, .widerDeep, .widerDeep, .data, .data, .data, .data, .data, .sentinel, .sentinel, .pinned, .pinned], laidTests := true, laidLooks := .later }
def RealBackUptoCardSaid : Prop := Claim7.holds Tryz.pinned (.plain (OpenSpec.upto realBackSpec)) realBackUptoCard

/-- THE SECOND FORM's CARD OF 'screelaw03.RealFloors'. -/
def realFloorsUptoCard : Claim7 := { stood := { row := realFloorsUptoRow, standIns := [], harness := (true, "9412e65df77020d476de961d8fe04d982db495716c5205bd412f3bd598488dbb"), looks := true }, kinds := [], alts := [], laidByText := true, laidKinds := [.data, .data, .widerDeep, .widerDeep, .data, .data, .data, .data, .data, .sentinel, .sentinel, .pinned, .pinned], laidTests := true, laidLooks := .later }
def RealFloorsUptoCardSaid : Prop := Claim7.holds Tryz.pinned (.plain (OpenSpec.upto realFloorsSpec)) realFloorsUptoCard

/-- THE SECOND FORM's CARD OF 'screelaw03.RealSums'. -/
def realSumsUptoCard : Claim7 := { stood := { row := realSumsUptoRow, standIns := [], harness := (true, "9412e65df77020d476de961d8fe04d982db495716c5205bd412f3bd598488dbb"), looks := true }, kinds := [], alts := [], laidByText := true, laidKinds := [.data, .data, .widerDeep, .widerDeep, .data, .data, .data, .data, .data, .sentinel, .sentinel, .pinned, .pinned], laidTests := true, laidLooks := .later }
def RealSumsUptoCardSaid : Prop := Claim7.holds Tryz.pinned (.plain (OpenSpec.upto realSumsSpec)) realSumsUptoCard

/-- THE SECOND FORM's CARD OF 'screelaw03.RealEdges'. -/
def realEdgesUptoCard : Claim7 := { stood := { row := realEdgesUptoRow, standIns := [], harness := (true, "9412e65df77020d476de961d8fe04d982db495716c5205bd412f3bd598488dbb"), looks := true }, kinds := [], alts := [], laidByText := true, laidKinds := [.data, .data, .widerDeep, .widerDeep, .data, .data, .data, .data, .data, .sentinel, .sentinel, .pinned, .pinned], laidTests := true, laidLooks := .later }
def RealEdgesUptoCardSaid : Prop := Claim7.holds Tryz.pinned (.plain (OpenSpec.upto realEdgesSpec)) realEdgesUptoCard

/-- THE SECOND FORM's CARD OF 'screelaw03.RealHashes'. -/
def realHashesUptoCard : Claim7 := { stood := { row := realHashesUptoRow, standIns := [], harness := (true, "9412e65df77020d476de961d8fe04d982db495716c5205bd412f3bd598488dbb"), looks := true }, kinds := [], alts := [], laidByText := true, laidKinds := [.data, .data, .widerDeep, .widerDeep, .data, .data, .data, .data, .data, .sentinel, .sentinel, .pinned, .pinned], laidTests := true, laidLooks := .later }
def RealHashesUptoCardSaid : Prop := Claim7.holds Tryz.pinned (.plain (OpenSpec.upto realHashesSpec)) realHashesUptoCard

/-- THE SECOND FORM's CARD OF 'screelaw03.RealWholes'. -/
def realWholesUptoCard : Claim7 := { stood := { row := realWholesUptoRow, standIns := [], harness := (true, "9412e65df77020d476de961d8fe04d982db495716c5205bd412f3bd598488dbb"), looks := true }, kinds := [], alts := [], laidByText := true, laidKinds := [.data, .data, .widerDeep, .widerDeep, .data, .data, .data, .data, .data, .sentinel, .sentinel, .pinned, .pinned], laidTests := true, laidLooks := .later }
def RealWholesUptoCardSaid : Prop := Claim7.holds Tryz.pinned (.plain (OpenSpec.upto realWholesSpec)) realWholesUptoCard

/-- THE SECOND FORM's CARD OF 'screelaw03.RealOrders'. -/
def realOrdersUptoCard : Claim7 := { stood := { row := realOrdersUptoRow, standIns := [], harness := (true, "9412e65df77020d476de961d8fe04d982db495716c5205bd412f3bd598488dbb"), looks := true }, kinds := [], alts := [], laidByText := true, laidKinds := [.data, .data, .widerDeep, .widerDeep, .data, .data, .data, .data, .data, .sentinel, .sentinel, .pinned, .pinned], laidTests := true, laidLooks := .later }
def RealOrdersUptoCardSaid : Prop := Claim7.holds Tryz.pinned (.plain (OpenSpec.upto realOrdersSpec)) realOrdersUptoCard

/-- THE SECOND FORM's CARD OF 'screelaw03.RealRests'. -/
def realRestsUptoCard : Claim7 := { stood := { row := realRestsUptoRow, standIns := [], harness := (true, "9412e65df77020d476de961d8fe04d982db495716c5205bd412f3bd598488dbb"), looks := true }, kinds := [], alts := [], laidByText := true, laidKinds := [.data, .data, .widerDeep, .widerDeep, .data, .data, .data, .data, .data, .sentinel, .sentinel, .pinned, .pinned], laidTests := true, laidLooks := .later }
def RealRestsUptoCardSaid : Prop := Claim7.holds Tryz.pinned (.plain (OpenSpec.upto realRestsSpec)) realRestsUptoCard

/-- THE SECOND FORM's CARD OF 'screelaw03.RealNear'. -/
def realNearUptoCard : Claim7 := { stood := { row := realNearUptoRow, standIns := [], harness := (true, "9412e65df77020d476de961d8fe04d982db495716c5205bd412f3bd598488dbb"), looks := true }, kinds := [], alts := [], laidByText := true, laidKinds := [.data, .data, .widerDeep, .widerDeep, .data, .data, .data, .data, .data, .sentinel, .sentinel, .pinned, .pinned], laidTests := true, laidLooks := .later }
def RealNearUptoCardSaid : Prop := Claim7.holds Tryz.pinned (.plain (OpenSpec.upto realNearSpec)) realNearUptoCard

/-- THE SECOND FORM's CARD OF 'screelaw03.RealAgree'. -/
def realAgreeUptoCard : Claim7 := { stood := { row := realAgreeUptoRow, standIns := [], harness := (true, "9412e65df77020d476de961d8fe04d982db495716c5205bd412f3bd598488dbb"), looks := true }, kinds := [], alts := [], laidByText := true, laidKinds := [.data, .data, .widerDeep, .widerDeep, .data, .data, .data, .data, .data, .sentinel, .sentinel, .pinned, .pinned], laidTests := true, laidLooks := .later }
def RealAgreeUptoCardSaid : Prop := Claim7.holds Tryz.pinned (.plain (OpenSpec.upto realAgreeSpec)) realAgreeUptoCard
end Rows
end Go.Proofs.YtljndllhmdpjlaaGreatDoor
