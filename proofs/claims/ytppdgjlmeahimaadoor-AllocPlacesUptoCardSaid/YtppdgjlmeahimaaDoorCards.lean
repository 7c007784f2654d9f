/-
  DERIVED. GIVEN WITH THE SEED: THE CARDS: each row of YtppdgjlmeahimaaDoorRows.lean that lists a variable, with what it lists TIED to the program's text (the seventh form; the later family's looks); each row that meets fmt, with fmt's text TOLD by the authors' own Lean function (tested against real Go, not proved from fmt's source: count such statements apart). THE CARD IS WHAT COUNTS. Prove the row's statement (the work); the ties are given (YtppdgjlmeahimaaDoorTie.lean); close each card by the builder's one call (the guide's Derived/Test/ToyasCard.lean, 'card_holds'). Laid BY PROGRAM, IN A SANDBOX (cutbox-door.mjs). By AI agents, Wed Nov 11 2026. No macro, syntax, notation, axiom, sorry.
-/
import Derived.Test.YtppdgjlmeahimaaDoorRows
import GoSem.ClaimSeven
namespace Go.Proofs.YtppdgjlmeahimaaDoor
namespace Rows

/-- THE TIED CARD OF 'screelaw11.AllocRight'. -/
def allocRightCard : Claim7 := { stood := { row := allocRightRow, standIns := [], harness := (true, "9bb6fea853958b83ad4f6c4a9bb258733665e637e2af1ba2631340eff3a93ca3"), looks := false }, kinds := [], alts := [], laidByText := true, laidKinds := [.data], laidTests := true, laidLooks := .later }
def AllocRightCardSaid : Prop := Claim7.holds Tryd.pinned (.plain (OpenSpec.ofChange allocRightSpec)) allocRightCard

/-- THE TIED CARD OF 'screelaw11.AllocAssigns'. -/
def allocAssignsCard : Claim7 := { stood := { row := allocAssignsRow, standIns := [], harness := (true, "9bb6fea853958b83ad4f6c4a9bb258733665e637e2af1ba2631340eff3a93ca3"), looks := false }, kinds := [], alts := [], laidByText := true, laidKinds := [.data], laidTests := true, laidLooks := .later }
def AllocAssignsCardSaid : Prop := Claim7.holds Tryd.pinned (.plain (OpenSpec.ofChange allocAssignsSpec)) allocAssignsCard

/-- THE TIED CARD OF 'screelaw11.AllocApart'. -/
def allocApartCard : Claim7 := { stood := { row := allocApartRow, standIns := [], harness := (true, "9bb6fea853958b83ad4f6c4a9bb258733665e637e2af1ba2631340eff3a93ca3"), looks := false }, kinds := [], alts := [], laidByText := true, laidKinds := [.data], laidTests := true, laidLooks := .later }
def AllocApartCardSaid : Prop := Claim7.holds Tryd.pinned (.plain (OpenSpec.ofChange allocApartSpec)) allocApartCard

/-- THE TIED CARD OF 'screelaw11.AllocPlaces'. -/
def allocPlacesCard : Claim7 := { stood := { row := allocPlacesRow, standIns := [], harness := (true, "9bb6fea853958b83ad4f6c4a9bb258733665e637e2af1ba2631340eff3a93ca3"), looks := false }, kinds := [], alts := [], laidByText := true, laidKinds := [.data], laidTests := true, laidLooks := .later }
def AllocPlacesCardSaid : Prop := Claim7.holds Tryd.pinned (.plain (OpenSpec.ofChange allocPlacesSpec)) allocPlacesCard

/-- THE TIED CARD OF 'screelaw11.AllocKeeps'. -/
def allocKeepsCard : Claim7 := { stood := { row := allocKeepsRow, standIns := [], harness := (true, "9bb6fea853958b83ad4f6c4a9bb258733665e637e2af1ba2631340eff3a93ca3"), looks := false }, kinds := [], alts := [], laidByText := true, laidKinds := [.data], laidTests := true, laidLooks := .later }
def AllocKeepsCardSaid : Prop := Claim7.holds Tryd.pinned (.plain (OpenSpec.ofChange allocKeepsSpec)) allocKeepsCard

/-- THE SECOND FORM's CARD OF 'screelaw11.AllocRight'. -/
def allocRightUptoCard : Claim7 := { stood := { row := allocRightUptoRow, standIns := [], harness := (true, "9bb6fea853958b83ad4f6c4a9bb258733665e637e2af1ba2631340eff3a93ca3"), looks := false }, kinds := [], alts := [], laidByText := true, laidKinds := [.data], laidTests := true, laidLooks := .later }
def AllocRightUptoCardSaid : Prop := Claim7.holds Tryd.pinned (.plain (OpenSpec.upto allocRightSpec)) allocRightUptoCard

/-- THE SECOND FORM's CARD OF 'screelaw11.AllocAssigns'. -/
def allocAssignsUptoCard : Claim7 := { stood := { row := allocAssignsUptoRow, standIns := [], harness := (true, "9bb6fea853958b83ad4f6c4a9bb258733665e637e2af1ba2631340eff3a93ca3"), looks := false }, kinds := [], alts := [], laidByText := true, laidKinds := [.data], laidTests := true, laidLooks := .later }
def AllocAssignsUptoCardSaid : Prop := Claim7.holds Tryd.pinned (.plain (OpenSpec.upto allocAssignsSpec)) allocAssignsUptoCard

/-- THE SECOND FORM's CARD OF 'screelaw11.AllocApart'. -/
def allocApartUptoCard : Claim7 := { stood := { row := allocApartUptoRow, standIns := [], harness := (true, "9bb6fea853958b83ad4f6c4a9bb258733665e637e2af1ba2631340eff3a93ca3"), looks := false }, kinds := [], alts := [], laidByText := true, laidKinds := [.data], laidTests := true, laidLooks := .later }
def AllocApartUptoCardSaid : Prop := Claim7.holds Tryd.pinned (.plain (OpenSpec.upto allocApartSpec)) allocApartUptoCard

/-- THE SECOND FORM's CARD OF 'screelaw11.AllocPlaces'. -/
def allocPlacesUptoCard : Claim7 := { stood := { row := allocPlacesUptoRow, standIns := [], harness := (true, "9bb6fea853958b83ad4f6c4a9bb258733665e637e2af1ba2631340eff3a93ca3"), looks := false }, kinds := [], alts := [], laidByText := true, laidKinds := [.data], laidTests := true, laidLooks := .later }
def AllocPlacesUptoCardSaid : Prop := Claim7.holds Tryd.pinned (.plain (OpenSpec.upto allocPlacesSpec)) allocPlacesUptoCard

/-- THE SECOND FORM's CARD OF 'screelaw11.AllocKeeps'. -/
def allocKeepsUptoCard : Claim7 := { stood := { row := allocKeepsUptoRow, standIns := [], harness := (true, "9bb6fea853958b83ad4f6c4a9bb258733665e637e2af1ba2631340eff3a93ca3"), looks := false }, kinds := [], alts := [], laidByText := true, laidKinds := [.data], laidTests := true, laidLooks := .later }
def AllocKeepsUptoCardSaid : Prop := Claim7.holds Tryd.pinned (.plain (OpenSpec.upto allocKeepsSpec)) allocKeepsUptoCard
end Rows
end Go.Proofs.YtppdgjlmeahimaaDoor
