/-
  DERIVED. GIVEN WITH THE SEED: THE CARDS: each row of YtffofdfikmpanaaDoorRows.lean that lists a variable, with what it lists TIED to the program's text (the seventh form; the later family's looks); each row that meets fmt, with fmt's text TOLD by the authors' own Lean function (tested against real Go, not proved from fmt's source: count such statements apart). THE CARD IS WHAT COUNTS. Prove the row's statement (the work); the ties are given (YtffofdfikmpanaaDoorTie.lean); close each card by the builder's one call (the guide's Derived/Test/ToyasCard.lean, 'card_holds'). Laid BY PROGRAM, IN A SANDBOX (cutbox-door.mjs). By AI agents, Wed Nov 11 2026. No macro, syntax, notation, axiom, sorry.
-/
import Derived.Test.YtffofdfikmpanaaDoorRows
import GoSem.ClaimSeven
namespace Go.Proofs.YtffofdfikmpanaaDoor
namespace Rows

/-- THE TIED CARD OF 'affiantlaw15.TextLines'. -/
def textLinesCard : Claim7 := { stood := { row := textLinesRow, standIns := [], harness := (true, "2edac05980fd296ce1e05a287b4f04affc4579a16868321505eca8e40b0c4abf"), looks := false }, kinds := [], alts := [], laidByText := true, laidKinds := [.data, .pinned], laidTests := true, laidLooks := .later }
def TextLinesCardSaid : Prop := Claim7.holds Tryd.pinned (.plain (OpenSpec.ofChange textLinesSpec)) textLinesCard

/-- THE TIED CARD OF 'affiantlaw15.TextSame'. -/
def textSameCard : Claim7 := { stood := { row := textSameRow, standIns := [], harness := (true, "2edac05980fd296ce1e05a287b4f04affc4579a16868321505eca8e40b0c4abf"), looks := false }, kinds := [], alts := [], laidByText := true, laidKinds := [.data, .pinned], laidTests := true, laidLooks := .later }
def TextSameCardSaid : Prop := Claim7.holds Tryd.pinned (.plain (OpenSpec.ofChange textSameSpec)) textSameCard

/-- THE TIED CARD OF 'affiantlaw15.TextForms'. -/
def textFormsCard : Claim7 := { stood := { row := textFormsRow, standIns := [], harness := (true, "2edac05980fd296ce1e05a287b4f04affc4579a16868321505eca8e40b0c4abf"), looks := false }, kinds := [], alts := [], laidByText := true, laidKinds := [.data, .pinned], laidTests := true, laidLooks := .later }
def TextFormsCardSaid : Prop := Claim7.holds Tryd.pinned (.plain (OpenSpec.ofChange textFormsSpec)) textFormsCard

/-- THE SECOND FORM's CARD OF 'affiantlaw15.TextLines'. -/
def textLinesUptoCard : Claim7 := { stood := { row := textLinesUptoRow, standIns := [], harness := (true, "2edac05980fd296ce1e05a287b4f04affc4579a16868321505eca8e40b0c4abf"), looks := false }, kinds := [], alts := [], laidByText := true, laidKinds := [.data, .pinned], laidTests := true, laidLooks := .later }
def TextLinesUptoCardSaid : Prop := Claim7.holds Tryd.pinned (.plain (OpenSpec.upto textLinesSpec)) textLinesUptoCard

/-- THE SECOND FORM's CARD OF 'affiantlaw15.TextSame'. -/
def textSameUptoCard : Claim7 := { stood := { row := textSameUptoRow, standIns := [], harness := (true, "2edac05980fd296ce1e05a287b4f04affc4579a16868321505eca8e40b0c4abf"), looks := false }, kinds := [], alts := [], laidByText := true, laidKinds := [.data, .pinned], laidTests := true, laidLooks := .later }
def TextSameUptoCardSaid : Prop := Claim7.holds Tryd.pinned (.plain (OpenSpec.upto textSameSpec)) textSameUptoCard

/-- THE SECOND FORM's CARD OF 'affiantlaw15.TextForms'. -/
def textFormsUptoCard : Claim7 := { stood := { row := textFormsUptoRow, standIns := [], harness := (true, "2edac05980fd296ce1e05a287b4f04affc4579a16868321505eca8e40b0c4abf"), looks := false }, kinds := [], alts := [], laidByText := true, laidKinds := [.data, .pinned], laidTests := true, laidLooks := .later }
def TextFormsUptoCardSaid : Prop := Claim7.holds Tryd.pinned (.plain (OpenSpec.upto textFormsSpec)) textFormsUptoCard
end Rows
end Go.Proofs.YtffofdfikmpanaaDoor
