/-
  DERIVED. GIVEN WITH THE SEED: THE CARDS: each row of YtmjbnhjgebjhlaaDoorRows.lean that lists a variable, with what it lists TIED to the program's text (the seventh form; the later family's looks); each row that meets fmt, with fmt's text TOLD by the authors' own Lean function (tested against real Go, not proved from fmt's source: count such statements apart). THE CARD IS WHAT COUNTS. Prove the row's statement (the work); the ties are given (YtmjbnhjgebjhlaaDoorTie.lean); close each card by the builder's one call (the guide's Derived/Test/ToyasCard.lean, 'card_holds'). Laid BY PROGRAM, IN A SANDBOX (cutbox-door.mjs). By AI agents, Wed Nov 11 2026. No macro, syntax, notation, axiom, sorry.
-/
import Derived.Test.YtmjbnhjgebjhlaaDoorRows
import GoSem.ClaimSeven
namespace Go.Proofs.YtmjbnhjgebjhlaaDoor
namespace Rows

/-- THE TIED CARD OF 'screelaw08.CodeSpoils'. -/
def codeSpoilsCard : Claim7 := { stood := { row := codeSpoilsRow, standIns := [], harness := (true, "10461432315faff01e227ba435346247463632e41fc5e4dd28054164dfc593af"), looks := true }, kinds := [], alts := [], laidByText := true, laidKinds := [.data, .data, .widerDeep, .widerDeep, .data, .data, .data, .data, .data, .sentinel, .sentinel, .pinned, .pinned], laidTests := true, laidLooks := .later }
def CodeSpoilsCardSaid : Prop := Claim7.holds Tryd.pinned (.plain (OpenSpec.ofChange codeSpoilsSpec)) codeSpoilsCard

/-- THE TIED CARD OF 'screelaw08.CodeKeeps'. -/
def codeKeepsCard : Claim7 := { stood := { row := codeKeepsRow, standIns := [], harness := (true, "10461432315faff01e227ba435346247463632e41fc5e4dd28054164dfc593af"), looks := true }, kinds := [], alts := [], laidByText := true, laidKinds := [.data, .data, .widerDeep, .widerDeep, .data, .data, .data, .data, .data, .sentinel, .sentinel, .pinned, .pinned], laidTests := true, laidLooks := .later }
def CodeKeepsCardSaid : Prop := Claim7.holds Tryd.pinned (.plain (OpenSpec.ofChange codeKeepsSpec)) codeKeepsCard

/-- THE SECOND FORM's CARD OF 'screelaw08.CodeSpoils'. -/
def codeSpoilsUptoCard : Claim7 := { stood := { row := codeSpoilsUptoRow, standIns := [], harness := (true, "10461432315faff01e227ba435346247463632e41fc5e4dd28054164dfc593af"), looks := true }, kinds := [], alts := [], laidByText := true, laidKinds := [.data, .data, .widerDeep, .widerDeep, .data, .data, .data, .data, .data, .sentinel, .sentinel, .pinned, .pinned], laidTests := true, laidLooks := .later }
def CodeSpoilsUptoCardSaid : Prop := Claim7.holds Tryd.pinned (.plain (OpenSpec.upto codeSpoilsSpec)) codeSpoilsUptoCard

/-- THE SECOND FORM's CARD OF 'screelaw08.CodeKeeps'. -/
def codeKeepsUptoCard : Claim7 := { stood := { row := codeKeepsUptoRow, standIns := [], harness := (true, "10461432315faff01e227ba435346247463632e41fc5e4dd28054164dfc593af"), looks := true }, kinds := [], alts := [], laidByText := true, laidKinds := [.data, .data, .widerDeep, .widerDeep, .data, .data, .data, .data, .data, .sentinel, .sentinel, .pinned, .pinned], laidTests := true, laidLooks := .later }
def CodeKeepsUptoCardSaid : Prop := Claim7.holds Tryd.pinned (.plain (OpenSpec.upto codeKeepsSpec)) codeKeepsUptoCard
end Rows
end Go.Proofs.YtmjbnhjgebjhlaaDoor
