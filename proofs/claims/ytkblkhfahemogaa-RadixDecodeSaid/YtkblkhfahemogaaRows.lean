/-
  No cell of these rows narrows 'for every input' (looked for: loops, veiled, ifaces, maps, wideKeys, modest, calm, conditions, laid).
  DERIVED. THE GIVEN ROWS OF THIS SEAT. 5 by the template 'for every input the law returns true; each argument reads behind the call as it read before'; 0 by the template 'total and deterministic' (their statements: YtkblkhfahemogaaTotals.lean).
  GIVEN WITH THE SEED: the statements are not yours to turn. If you find one false, say at which input.
  Laid BY PROGRAM, IN A SANDBOX (cutbox-rows.mjs): the forced cells as the released guide's own fill.sh prints them over the translation 0b6b13f13bfb9664… (all of the seat's roots in one cut). By AI agents, Wed Nov 11 2026. No macro, syntax, notation, axiom, sorry.
-/
import Derived.Test.YtkblkhfahemogaaChecked
import GoSem.Claim
import GoSem.ClaimJoined
import GoSem.ClaimMapViews
import Derived.JoinedTies
import Derived.KernelRfl
namespace Go.Proofs.Ytkblkhfahemogaa
/- THE CELL 'sum', in the pinned program and in every row, IS THE sha256 OF THE DUMP (.gsa) THAT YtkblkhfahemogaaProg.lean LOADS. Nothing in Lean hashes anything: it is a label: what it is worth is what the hold of that sum in a sandbox is worth. -/
noncomputable def Try.pinned : Pinned := { name := "ytkblkhfahemogaa", sum := "0b6b13f13bfb9664ac0c8b8a15eeccd38bfdd9686f1a5916dcee52647f44eece", checked := Try.checked }
namespace Rows
def none {H : Type} : Left H := { results := [], args := [] }

/-- 'affiantlaw02.RadixEncode': WHATEVER THE INPUT: true; the input reads as it did. -/
def radixEncodeSpec : ChangeSpec := { name := "radixEncode", fn := fun _ => fun
  | [d] => { results := [.lit (.bool true)], args := [d] }
  | _ => none }
def radixEncodeRow : OpenClaim := { program := "ytkblkhfahemogaa", sum := "0b6b13f13bfb9664ac0c8b8a15eeccd38bfdd9686f1a5916dcee52647f44eece", func := "affiant/affiantlaw02.RadixEncode", spec := "radixEncode", inPlace := ["internal/abi.NoEscape"], apart := false }
def RadixEncodeSaid : Prop := radixEncodeRow.holds Try.pinned (OpenSpec.ofChange radixEncodeSpec)

/-- ITS FALSE NEIGHBOUR: 'it returns false'. Refute it at one input. -/
def radixEncodeWrong : ChangeSpec := { name := "radixEncode", fn := fun _ => fun
  | [d] => { results := [.lit (.bool false)], args := [d] }
  | _ => none }
def RadixEncodeWrongFalsely : Prop := radixEncodeRow.holds Try.pinned (OpenSpec.ofChange radixEncodeWrong)

/-- 'affiantlaw02.RadixDecode': WHATEVER THE INPUT: true; the input reads as it did. -/
def radixDecodeSpec : ChangeSpec := { name := "radixDecode", fn := fun _ => fun
  | [d] => { results := [.lit (.bool true)], args := [d] }
  | _ => none }
def radixDecodeRow : OpenClaim := { program := "ytkblkhfahemogaa", sum := "0b6b13f13bfb9664ac0c8b8a15eeccd38bfdd9686f1a5916dcee52647f44eece", func := "affiant/affiantlaw02.RadixDecode", spec := "radixDecode", inPlace := ["internal/abi.NoEscape"], apart := false }
def RadixDecodeSaid : Prop := radixDecodeRow.holds Try.pinned (OpenSpec.ofChange radixDecodeSpec)

/-- ITS FALSE NEIGHBOUR: 'it returns false'. Refute it at one input. -/
def radixDecodeWrong : ChangeSpec := { name := "radixDecode", fn := fun _ => fun
  | [d] => { results := [.lit (.bool false)], args := [d] }
  | _ => none }
def RadixDecodeWrongFalsely : Prop := radixDecodeRow.holds Try.pinned (OpenSpec.ofChange radixDecodeWrong)

/-- 'affiantlaw02.RadixBack': WHATEVER THE INPUT: true; the input reads as it did. -/
def radixBackSpec : ChangeSpec := { name := "radixBack", fn := fun _ => fun
  | [d] => { results := [.lit (.bool true)], args := [d] }
  | _ => none }
def radixBackRow : OpenClaim := { program := "ytkblkhfahemogaa", sum := "0b6b13f13bfb9664ac0c8b8a15eeccd38bfdd9686f1a5916dcee52647f44eece", func := "affiant/affiantlaw02.RadixBack", spec := "radixBack", inPlace := ["internal/abi.NoEscape"], apart := false }
def RadixBackSaid : Prop := radixBackRow.holds Try.pinned (OpenSpec.ofChange radixBackSpec)

/-- ITS FALSE NEIGHBOUR: 'it returns false'. Refute it at one input. -/
def radixBackWrong : ChangeSpec := { name := "radixBack", fn := fun _ => fun
  | [d] => { results := [.lit (.bool false)], args := [d] }
  | _ => none }
def RadixBackWrongFalsely : Prop := radixBackRow.holds Try.pinned (OpenSpec.ofChange radixBackWrong)

/-- 'affiantlaw02.RadixOnly': WHATEVER THE INPUT: true; the input reads as it did. -/
def radixOnlySpec : ChangeSpec := { name := "radixOnly", fn := fun _ => fun
  | [d] => { results := [.lit (.bool true)], args := [d] }
  | _ => none }
def radixOnlyRow : OpenClaim := { program := "ytkblkhfahemogaa", sum := "0b6b13f13bfb9664ac0c8b8a15eeccd38bfdd9686f1a5916dcee52647f44eece", func := "affiant/affiantlaw02.RadixOnly", spec := "radixOnly", inPlace := ["internal/abi.NoEscape"], apart := false }
def RadixOnlySaid : Prop := radixOnlyRow.holds Try.pinned (OpenSpec.ofChange radixOnlySpec)

/-- ITS FALSE NEIGHBOUR: 'it returns false'. Refute it at one input. -/
def radixOnlyWrong : ChangeSpec := { name := "radixOnly", fn := fun _ => fun
  | [d] => { results := [.lit (.bool false)], args := [d] }
  | _ => none }
def RadixOnlyWrongFalsely : Prop := radixOnlyRow.holds Try.pinned (OpenSpec.ofChange radixOnlyWrong)

/-- 'affiantlaw02.RadixLetter': WHATEVER THE INPUT: true; the input reads as it did. -/
def radixLetterSpec : ChangeSpec := { name := "radixLetter", fn := fun _ => fun
  | [d1, d2] => { results := [.lit (.bool true)], args := [d1, d2] }
  | _ => none }
def radixLetterRow : OpenClaim := { program := "ytkblkhfahemogaa", sum := "0b6b13f13bfb9664ac0c8b8a15eeccd38bfdd9686f1a5916dcee52647f44eece", func := "affiant/affiantlaw02.RadixLetter", spec := "radixLetter", inPlace := ["internal/abi.NoEscape"], apart := false }
def RadixLetterSaid : Prop := radixLetterRow.holds Try.pinned (OpenSpec.ofChange radixLetterSpec)

/-- ITS FALSE NEIGHBOUR: 'it returns false'. Refute it at one input. -/
def radixLetterWrong : ChangeSpec := { name := "radixLetter", fn := fun _ => fun
  | [d1, d2] => { results := [.lit (.bool false)], args := [d1, d2] }
  | _ => none }
def RadixLetterWrongFalsely : Prop := radixLetterRow.holds Try.pinned (OpenSpec.ofChange radixLetterWrong)

/- THE SECOND FORM. 'bulk': how many values and letters a reading holds, each counted each time it is reached (what is shared counts as often as it is met; a slice's spare places count too). A statement '..UptoSaid' is the law's where the arguments, and the package variables that the reading takes, are together of bulk at most 1048576: NARROWER than '..Said'. Prove '..Said' where nothing that the law and all that it calls make is longer than what came in: it says more and counts as full. Else prove '..UptoSaid'. A law counts once. -/
mutual
def uptoBulk {H : Type} : DataW H → Nat
  | .lit (.string bytes) => bytes.length + 1
  | .lit _ => 1
  | .nil => 1
  | .ptr d => uptoBulk d + 1
  | .slice elems spare => uptoBulkAll elems + uptoBulkAll spare + 1
  | .agg parts => uptoBulkAll parts + 1
  | .iface _ d => uptoBulk d + 1
  | .map entries => uptoBulkEntries entries + 1
  | .held _ => 1
def uptoBulkAll {H : Type} : List (DataW H) → Nat
  | [] => 0
  | d :: r => uptoBulk d + uptoBulkAll r
def uptoBulkEntries {H : Type} : List (Lit × DataW H) → Nat
  | [] => 0
  | x :: r => uptoBulkEntry x + uptoBulkEntries r
def uptoBulkEntry {H : Type} : Lit × DataW H → Nat
  | (.string bytes, d) => bytes.length + uptoBulk d + 1
  | (_, d) => uptoBulk d + 1
 end
def uptoSmall : (H : Type) → List (DataW H) → Bool := fun _ ds => decide (uptoBulkAll ds ≤ 1048576)
def OpenSpec.upto (s : _root_.Go.ChangeSpec) : _root_.Go.OpenSpec := { _root_.Go.OpenSpec.ofChange s with cond := some uptoSmall }

/-- 'affiantlaw02.RadixEncode', WHERE WHAT IT READS IS OF BULK AT MOST 1048576: true; the input reads as it did. -/
def radixEncodeUptoRow : OpenClaim := { program := "ytkblkhfahemogaa", sum := "0b6b13f13bfb9664ac0c8b8a15eeccd38bfdd9686f1a5916dcee52647f44eece", func := "affiant/affiantlaw02.RadixEncode", spec := "radixEncode", inPlace := ["internal/abi.NoEscape"], apart := false, narrowed := true }
def RadixEncodeUptoSaid : Prop := radixEncodeUptoRow.holds Try.pinned (OpenSpec.upto radixEncodeSpec)

/-- 'affiantlaw02.RadixDecode', WHERE WHAT IT READS IS OF BULK AT MOST 1048576: true; the input reads as it did. -/
def radixDecodeUptoRow : OpenClaim := { program := "ytkblkhfahemogaa", sum := "0b6b13f13bfb9664ac0c8b8a15eeccd38bfdd9686f1a5916dcee52647f44eece", func := "affiant/affiantlaw02.RadixDecode", spec := "radixDecode", inPlace := ["internal/abi.NoEscape"], apart := false, narrowed := true }
def RadixDecodeUptoSaid : Prop := radixDecodeUptoRow.holds Try.pinned (OpenSpec.upto radixDecodeSpec)

/-- 'affiantlaw02.RadixBack', WHERE WHAT IT READS IS OF BULK AT MOST 1048576: true; the input reads as it did. -/
def radixBackUptoRow : OpenClaim := { program := "ytkblkhfahemogaa", sum := "0b6b13f13bfb9664ac0c8b8a15eeccd38bfdd9686f1a5916dcee52647f44eece", func := "affiant/affiantlaw02.RadixBack", spec := "radixBack", inPlace := ["internal/abi.NoEscape"], apart := false, narrowed := true }
def RadixBackUptoSaid : Prop := radixBackUptoRow.holds Try.pinned (OpenSpec.upto radixBackSpec)

/-- 'affiantlaw02.RadixOnly', WHERE WHAT IT READS IS OF BULK AT MOST 1048576: true; the input reads as it did. -/
def radixOnlyUptoRow : OpenClaim := { program := "ytkblkhfahemogaa", sum := "0b6b13f13bfb9664ac0c8b8a15eeccd38bfdd9686f1a5916dcee52647f44eece", func := "affiant/affiantlaw02.RadixOnly", spec := "radixOnly", inPlace := ["internal/abi.NoEscape"], apart := false, narrowed := true }
def RadixOnlyUptoSaid : Prop := radixOnlyUptoRow.holds Try.pinned (OpenSpec.upto radixOnlySpec)

/-- 'affiantlaw02.RadixLetter', WHERE WHAT IT READS IS OF BULK AT MOST 1048576: true; the input reads as it did. -/
def radixLetterUptoRow : OpenClaim := { program := "ytkblkhfahemogaa", sum := "0b6b13f13bfb9664ac0c8b8a15eeccd38bfdd9686f1a5916dcee52647f44eece", func := "affiant/affiantlaw02.RadixLetter", spec := "radixLetter", inPlace := ["internal/abi.NoEscape"], apart := false, narrowed := true }
def RadixLetterUptoSaid : Prop := radixLetterUptoRow.holds Try.pinned (OpenSpec.upto radixLetterSpec)

end Rows
end Go.Proofs.Ytkblkhfahemogaa
