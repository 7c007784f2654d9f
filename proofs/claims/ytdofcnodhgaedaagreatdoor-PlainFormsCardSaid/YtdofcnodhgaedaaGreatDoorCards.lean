/-
  DERIVED. GIVEN WITH THE SEED: THE CARDS: each row of YtdofcnodhgaedaaGreatDoorRows.lean that lists a variable, with what it lists TIED to the program's text (the seventh form; the later family's looks); each row that meets fmt, with fmt's text TOLD by the authors' own Lean function (tested against real Go, not proved from fmt's source: count such statements apart). THE CARD IS WHAT COUNTS. Prove the row's statement (the work); the ties are given (YtdofcnodhgaedaaGreatDoorTie.lean); close each card by the builder's one call (the guide's Derived/Test/ToyasCard.lean, 'card_holds'). Laid BY PROGRAM, IN A SANDBOX (cutbox-door.mjs). By AI agents, Wed Nov 11 2026. No macro, syntax, notation, axiom, sorry.
-/
import Derived.Test.YtdofcnodhgaedaaGreatDoorRows
import GoSem.ClaimSeven
namespace Go.Proofs.YtdofcnodhgaedaaGreatDoor
namespace Rows

/-- THE TIED CARD OF 'screelaw15.PlainForms'. -/
def plainFormsCard : Claim7 := { stood := { row := plainFormsRow, standIns := [], harness := (true, "abf7a7b7adee24ec2f8af489d1d2ca7c144ac463f2d7fa57b768e8ed40769fa3"), looks := true }, kinds := [], alts := [], laidByText := true, laidKinds := [.data, .data, .widerDeep, .widerDeep, .data, .data, .data, .data, .data, .sentinel, .sentinel, .pinned, .pinned], laidTests := true, laidLooks := .later }
def PlainFormsCardSaid : Prop := Claim7.holds Tryz.pinned (.plain (OpenSpec.ofChange plainFormsSpec)) plainFormsCard

/-- THE TIED CARD OF 'screelaw15.PlainKeeps'. -/
def plainKeepsCard : Claim7 := { stood := { row := plainKeepsRow, standIns := [], harness := (true, "abf7a7b7adee24ec2f8af489d1d2ca7c144ac463f2d7fa57b768e8ed40769fa3"), looks := true }, kinds := [], alts := [], laidByText := true, laidKinds := [.data, .data, .widerDeep, .widerDeep, .data, .data, .data, .data, .data, .sentinel, .sentinel, .pinned, .pinned], laidTests := true, laidLooks := .later }
def PlainKeepsCardSaid : Prop := Claim7.holds Tryz.pinned (.plain (OpenSpec.ofChange plainKeepsSpec)) plainKeepsCard

/-- THE SECOND FORM's CARD OF 'screelaw15.PlainForms'. -/
def plainFormsUptoCard : Claim7 := { stood := { row := plainFormsUptoRow, standIns := [], harness := (true, "abf7a7b7adee24ec2f8af489d1d2ca7c144ac463f2d7fa57b768e8ed40769fa3"), looks := true }, kinds := [], alts := [], laidByText := true, laidKinds := [.data, .data, .widerDeep, .widerDeep, .data, .data, .data, .data, .data, .sentinel, .sentinel, .pinned, .pinned], laidTests := true, laidLooks := .later }
def PlainFormsUptoCardSaid : Prop := Claim7.holds Tryz.pinned (.plain (OpenSpec.upto plainFormsSpec)) plainFormsUptoCard

/-- THE SECOND FORM's CARD OF 'screelaw15.PlainKeeps'. -/
def plainKeepsUptoCard : Claim7 := { stood := { row := plainKeepsUptoRow, standIns := [], harness := (true, "abf7a7b7adee24ec2f8af489d1d2ca7c144ac463f2d7fa57b768e8ed40769fa3"), looks := true }, kinds := [], alts := [], laidByText := true, laidKinds := [.data, .data, .widerDeep, .widerDeep, .data, .data, .data, .data, .data, .sentinel, .sentinel, .pinned, .pinned], laidTests := true, laidLooks := .later }
def PlainKeepsUptoCardSaid : Prop := Claim7.holds Tryz.pinned (.plain (OpenSpec.upto plainKeepsSpec)) plainKeepsUptoCard
end Rows
end Go.Proofs.YtdofcnodhgaedaaGreatDoor
