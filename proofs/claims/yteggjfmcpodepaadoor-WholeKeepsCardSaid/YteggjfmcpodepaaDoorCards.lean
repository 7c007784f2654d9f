/-
  DERIVED. GIVEN WITH THE SEED: THE CARDS: each row of YteggjfmcpodepaaDoorRows.lean that lists a variable, with what it lists TIED to the program's text (the seventh form; the later family's looks); each row that meets fmt, with fmt's text TOLD by the authors' own Lean function (tested against real Go, not proved from fmt's source: count such statements apart). THE CARD IS WHAT COUNTS. Prove the row's statement (the work); the ties are given (YteggjfmcpodepaaDoorTie.lean); close each card by the builder's one call (the guide's Derived/Test/ToyasCard.lean, 'card_holds'). Laid BY PROGRAM, IN A SANDBOX (cutbox-door.mjs). By AI agents, Wed Nov 11 2026. No macro, syntax, notation, axiom, sorry.
-/
import Derived.Test.YteggjfmcpodepaaDoorRows
import GoSem.ClaimSeven
namespace Go.Proofs.YteggjfmcpodepaaDoor
namespace Rows

/-- THE TIED CARD OF 'screelaw02.WholeQuotients'. -/
def wholeQuotientsCard : Claim7 := { stood := { row := wholeQuotientsRow, standIns := [], harness := (true, "b0069d3d21596ad32853226ee86c59108199b1d6aacd2b20e4123ea12e84a160"), looks := true }, kinds := [], alts := [], laidByText := true, laidKinds := [.data, .data, .data], laidTests := true, laidLooks := .later }
def WholeQuotientsCardSaid : Prop := Claim7.holds Tryd.pinned (.plain (OpenSpec.ofChange wholeQuotientsSpec)) wholeQuotientsCard

/-- THE TIED CARD OF 'screelaw02.WholeForms'. -/
def wholeFormsCard : Claim7 := { stood := { row := wholeFormsRow, standIns := [], harness := (true, "b0069d3d21596ad32853226ee86c59108199b1d6aacd2b20e4123ea12e84a160"), looks := true }, kinds := [], alts := [], laidByText := true, laidKinds := [.data, .data, .data], laidTests := true, laidLooks := .later }
def WholeFormsCardSaid : Prop := Claim7.holds Tryd.pinned (.plain (OpenSpec.ofChange wholeFormsSpec)) wholeFormsCard

/-- THE TIED CARD OF 'screelaw02.WholeSums'. -/
def wholeSumsCard : Claim7 := { stood := { row := wholeSumsRow, standIns := [], harness := (true, "b0069d3d21596ad32853226ee86c59108199b1d6aacd2b20e4123ea12e84a160"), looks := true }, kinds := [], alts := [], laidByText := true, laidKinds := [.data, .data, .data], laidTests := true, laidLooks := .later }
def WholeSumsCardSaid : Prop := Claim7.holds Tryd.pinned (.plain (OpenSpec.ofChange wholeSumsSpec)) wholeSumsCard

/-- THE TIED CARD OF 'screelaw02.WholeProducts'. -/
def wholeProductsCard : Claim7 := { stood := { row := wholeProductsRow, standIns := [], harness := (true, "b0069d3d21596ad32853226ee86c59108199b1d6aacd2b20e4123ea12e84a160"), looks := true }, kinds := [], alts := [], laidByText := true, laidKinds := [.data, .data, .data], laidTests := true, laidLooks := .later }
def WholeProductsCardSaid : Prop := Claim7.holds Tryd.pinned (.plain (OpenSpec.ofChange wholeProductsSpec)) wholeProductsCard

/-- THE TIED CARD OF 'screelaw02.WholePowers'. -/
def wholePowersCard : Claim7 := { stood := { row := wholePowersRow, standIns := [], harness := (true, "b0069d3d21596ad32853226ee86c59108199b1d6aacd2b20e4123ea12e84a160"), looks := true }, kinds := [], alts := [], laidByText := true, laidKinds := [.data, .data, .data], laidTests := true, laidLooks := .later }
def WholePowersCardSaid : Prop := Claim7.holds Tryd.pinned (.plain (OpenSpec.ofChange wholePowersSpec)) wholePowersCard

/-- THE TIED CARD OF 'screelaw02.WholeExps'. -/
def wholeExpsCard : Claim7 := { stood := { row := wholeExpsRow, standIns := [], harness := (true, "b0069d3d21596ad32853226ee86c59108199b1d6aacd2b20e4123ea12e84a160"), looks := true }, kinds := [], alts := [], laidByText := true, laidKinds := [.data, .data, .data], laidTests := true, laidLooks := .later }
def WholeExpsCardSaid : Prop := Claim7.holds Tryd.pinned (.plain (OpenSpec.ofChange wholeExpsSpec)) wholeExpsCard

/-- THE TIED CARD OF 'screelaw02.WholeRing'. -/
def wholeRingCard : Claim7 := { stood := { row := wholeRingRow, standIns := [], harness := (true, "b0069d3d21596ad32853226ee86c59108199b1d6aacd2b20e4123ea12e84a160"), looks := true }, kinds := [], alts := [], laidByText := true, laidKinds := [.data, .data, .data], laidTests := true, laidLooks := .later }
def WholeRingCardSaid : Prop := Claim7.holds Tryd.pinned (.plain (OpenSpec.ofChange wholeRingSpec)) wholeRingCard

/-- THE TIED CARD OF 'screelaw02.WholeEuclid'. -/
def wholeEuclidCard : Claim7 := { stood := { row := wholeEuclidRow, standIns := [], harness := (true, "b0069d3d21596ad32853226ee86c59108199b1d6aacd2b20e4123ea12e84a160"), looks := true }, kinds := [], alts := [], laidByText := true, laidKinds := [.data, .data, .data], laidTests := true, laidLooks := .later }
def WholeEuclidCardSaid : Prop := Claim7.holds Tryd.pinned (.plain (OpenSpec.ofChange wholeEuclidSpec)) wholeEuclidCard

/-- THE TIED CARD OF 'screelaw02.WholeKeeps'. -/
def wholeKeepsCard : Claim7 := { stood := { row := wholeKeepsRow, standIns := [], harness := (true, "b0069d3d21596ad32853226ee86c59108199b1d6aacd2b20e4123ea12e84a160"), looks := true }, kinds := [], alts := [], laidByText := true, laidKinds := [.data, .data, .data], laidTests := true, laidLooks := .later }
def WholeKeepsCardSaid : Prop := Claim7.holds Tryd.pinned (.plain (OpenSpec.ofChange wholeKeepsSpec)) wholeKeepsCard

/-- THE TIED CARD OF 'screelaw02.WholeTexts'. -/
def wholeTextsCard : Claim7 := { stood := { row := wholeTextsRow, standIns := [], harness := (true, "b0069d3d21596ad32853226ee86c59108199b1d6aacd2b20e4123ea12e84a160"), looks := true }, kinds := [], alts := [], laidByText := true, laidKinds := [.data, .data, .data, .sentinel, .sentinel], laidTests := true, laidLooks := .later }
def WholeTextsCardSaid : Prop := Claim7.holds Tryd.pinned (.plain (OpenSpec.ofChange wholeTextsSpec)) wholeTextsCard

/-- THE SECOND FORM's CARD OF 'screelaw02.WholeQuotients'. -/
def wholeQuotientsUptoCard : Claim7 := { stood := { row := wholeQuotientsUptoRow, standIns := [], harness := (true, "b0069d3d21596ad32853226ee86c59108199b1d6aacd2b20e4123ea12e84a160"), looks := true }, kinds := [], alts := [], laidByText := true, laidKinds := [.data, .data, .data], laidTests := true, laidLooks := .later }
def WholeQuotientsUptoCardSaid : Prop := Claim7.holds Tryd.pinned (.plain (OpenSpec.upto wholeQuotientsSpec)) wholeQuotientsUptoCard

/-- THE SECOND FORM's CARD OF 'screelaw02.WholeForms'. -/
def wholeFormsUptoCard : Claim7 := { stood := { row := wholeFormsUptoRow, standIns := [], harness := (true, "b0069d3d21596ad32853226ee86c59108199b1d6aacd2b20e4123ea12e84a160"), looks := true }, kinds := [], alts := [], laidByText := true, laidKinds := [.data, .data, .data], laidTests := true, laidLooks := .later }
def WholeFormsUptoCardSaid : Prop := Claim7.holds Tryd.pinned (.plain (OpenSpec.upto wholeFormsSpec)) wholeFormsUptoCard

/-- THE SECOND FORM's CARD OF 'screelaw02.WholeSums'. -/
def wholeSumsUptoCard : Claim7 := { stood := { row := wholeSumsUptoRow, standIns := [], harness := (true, "b0069d3d21596ad32853226ee86c59108199b1d6aacd2b20e4123ea12e84a160"), looks := true }, kinds := [], alts := [], laidByText := true, laidKinds := [.data, .data, .data], laidTests := true, laidLooks := .later }
def WholeSumsUptoCardSaid : Prop := Claim7.holds Tryd.pinned (.plain (OpenSpec.upto wholeSumsSpec)) wholeSumsUptoCard

/-- THE SECOND FORM's CARD OF 'screelaw02.WholeProducts'. -/
def wholeProductsUptoCard : Claim7 := { stood := { row := wholeProductsUptoRow, standIns := [], harness := (true, "b0069d3d21596ad32853226ee86c59108199b1d6aacd2b20e4123ea12e84a160"), looks := true }, kinds := [], alts := [], laidByText := true, laidKinds := [.data, .data, .data], laidTests := true, laidLooks := .later }
def WholeProductsUptoCardSaid : Prop := Claim7.holds Tryd.pinned (.plain (OpenSpec.upto wholeProductsSpec)) wholeProductsUptoCard

/-- THE SECOND FORM's CARD OF 'screelaw02.WholePowers'. -/
def wholePowersUptoCard : Claim7 := { stood := { row := wholePowersUptoRow, standIns := [], harness := (true, "b0069d3d21596ad32853226ee86c59108199b1d6aacd2b20e4123ea12e84a160"), looks := true }, kinds := [], alts := [], laidByText := true, laidKinds := [.data, .data, .data], laidTests := true, laidLooks := .later }
def WholePowersUptoCardSaid : Prop := Claim7.holds Tryd.pinned (.plain (OpenSpec.upto wholePowersSpec)) wholePowersUptoCard

/-- THE SECOND FORM's CARD OF 'screelaw02.WholeExps'. -/
def wholeExpsUptoCard : Claim7 := { stood := { row := wholeExpsUptoRow, standIns := [], harness := (true, "b0069d3d21596ad32853226ee86c59108199b1d6aacd2b20e4123ea12e84a160"), looks := true }, kinds := [], alts := [], laidByText := true, laidKinds := [.data, .data, .data], laidTests := true, laidLooks := .later }
def WholeExpsUptoCardSaid : Prop := Claim7.holds Tryd.pinned (.plain (OpenSpec.upto wholeExpsSpec)) wholeExpsUptoCard

/-- THE SECOND FORM's CARD OF 'screelaw02.WholeRing'. -/
def wholeRingUptoCard : Claim7 := { stood := { row := wholeRingUptoRow, standIns := [], harness := (true, "b0069d3d21596ad32853226ee86c59108199b1d6aacd2b20e4123ea12e84a160"), looks := true }, kinds := [], alts := [], laidByText := true, laidKinds := [.data, .data, .data], laidTests := true, laidLooks := .later }
def WholeRingUptoCardSaid : Prop := Claim7.holds Tryd.pinned (.plain (OpenSpec.upto wholeRingSpec)) wholeRingUptoCard

/-- THE SECOND FORM's CARD OF 'screelaw02.WholeEuclid'. -/
def wholeEuclidUptoCard : Claim7 := { stood := { row := wholeEuclidUptoRow, standIns := [], harness := (true, "b0069d3d21596ad32853226ee86c59108199b1d6aacd2b20e4123ea12e84a160"), looks := true }, kinds := [], alts := [], laidByText := true, laidKinds := [.data, .data, .data], laidTests := true, laidLooks := .later }
def WholeEuclidUptoCardSaid : Prop := Claim7.holds Tryd.pinned (.plain (OpenSpec.upto wholeEuclidSpec)) wholeEuclidUptoCard

/-- THE SECOND FORM's CARD OF 'screelaw02.WholeKeeps'. -/
def wholeKeepsUptoCard : Claim7 := { stood := { row := wholeKeepsUptoRow, standIns := [], harness := (true, "b0069d3d21596ad32853226ee86c59108199b1d6aacd2b20e4123ea12e84a160"), looks := true }, kinds := [], alts := [], laidByText := true, laidKinds := [.data, .data, .data], laidTests := true, laidLooks := .later }
def WholeKeepsUptoCardSaid : Prop := Claim7.holds Tryd.pinned (.plain (OpenSpec.upto wholeKeepsSpec)) wholeKeepsUptoCard

/-- THE SECOND FORM's CARD OF 'screelaw02.WholeTexts'. -/
def wholeTextsUptoCard : Claim7 := { stood := { row := wholeTextsUptoRow, standIns := [], harness := (true, "b0069d3d21596ad32853226ee86c59108199b1d6aacd2b20e4123ea12e84a160"), looks := true }, kinds := [], alts := [], laidByText := true, laidKinds := [.data, .data, .data, .sentinel, .sentinel], laidTests := true, laidLooks := .later }
def WholeTextsUptoCardSaid : Prop := Claim7.holds Tryd.pinned (.plain (OpenSpec.upto wholeTextsSpec)) wholeTextsUptoCard
end Rows
end Go.Proofs.YteggjfmcpodepaaDoor
