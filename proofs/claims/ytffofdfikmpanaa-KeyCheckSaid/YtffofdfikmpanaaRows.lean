/-
  No cell of these rows narrows 'for every input' (looked for: loops, veiled, ifaces, maps, wideKeys, modest, calm, conditions, laid).
  DERIVED. THE GIVEN ROWS OF THIS SEAT. 6 by the template 'for every input the law returns true; each argument reads behind the call as it read before'; 0 by the template 'total and deterministic' (their statements: YtffofdfikmpanaaTotals.lean).
  GIVEN WITH THE SEED: the statements are not yours to turn. If you find one false, say at which input.
  Laid BY PROGRAM, IN A SANDBOX (cutbox-rows.mjs): the forced cells as the released guide's own fill.sh prints them over the translation b482b65a5c0a8679… (all of the seat's roots in one cut). By AI agents, Wed Nov 11 2026. No macro, syntax, notation, axiom, sorry.
-/
import Derived.Test.YtffofdfikmpanaaChecked
import GoSem.Claim
import GoSem.ClaimJoined
import GoSem.ClaimMapViews
import Derived.JoinedTies
import Derived.KernelRfl
namespace Go.Proofs.Ytffofdfikmpanaa
/- THE CELL 'sum', in the pinned program and in every row, IS THE sha256 OF THE DUMP (.gsa) THAT YtffofdfikmpanaaProg.lean LOADS. Nothing in Lean hashes anything: it is a label: what it is worth is what the hold of that sum in a sandbox is worth. -/
noncomputable def Try.pinned : Pinned := { name := "ytffofdfikmpanaa", sum := "b482b65a5c0a8679da7a485d1061b10935e9a20e3ee3d858adf71f61e219c24f", checked := Try.checked }
namespace Rows
def none {H : Type} : Left H := { results := [], args := [] }

/-- 'affiantlaw23.KeyBack': WHATEVER THE INPUT: true; the input reads as it did. -/
def keyBackSpec : ChangeSpec := { name := "keyBack", fn := fun _ => fun
  | [d] => { results := [.lit (.bool true)], args := [d] }
  | _ => none }
def keyBackRow : OpenClaim := { program := "ytffofdfikmpanaa", sum := "b482b65a5c0a8679da7a485d1061b10935e9a20e3ee3d858adf71f61e219c24f", func := "affiant/affiantlaw23.KeyBack", spec := "keyBack", unfollowed := true, recurses := true, apart := false }
def KeyBackSaid : Prop := keyBackRow.holds Try.pinned (OpenSpec.ofChange keyBackSpec)

/-- ITS FALSE NEIGHBOUR: 'it returns false'. Refute it at one input. -/
def keyBackWrong : ChangeSpec := { name := "keyBack", fn := fun _ => fun
  | [d] => { results := [.lit (.bool false)], args := [d] }
  | _ => none }
def KeyBackWrongFalsely : Prop := keyBackRow.holds Try.pinned (OpenSpec.ofChange keyBackWrong)

/-- 'affiantlaw25.ImageKeys': WHATEVER THE INPUT: true; the input reads as it did. -/
def imageKeysSpec : ChangeSpec := { name := "imageKeys", fn := fun _ => fun
  | [d1, d2, d3] => { results := [.lit (.bool true)], args := [d1, d2, d3] }
  | _ => none }
def imageKeysRow : OpenClaim := { program := "ytffofdfikmpanaa", sum := "b482b65a5c0a8679da7a485d1061b10935e9a20e3ee3d858adf71f61e219c24f", func := "affiant/affiantlaw25.ImageKeys", spec := "imageKeys", unfollowed := true, recurses := true, apart := false }
def ImageKeysSaid : Prop := imageKeysRow.holds Try.pinned (OpenSpec.ofChange imageKeysSpec)

/-- ITS FALSE NEIGHBOUR: 'it returns false'. Refute it at one input. -/
def imageKeysWrong : ChangeSpec := { name := "imageKeys", fn := fun _ => fun
  | [d1, d2, d3] => { results := [.lit (.bool false)], args := [d1, d2, d3] }
  | _ => none }
def ImageKeysWrongFalsely : Prop := imageKeysRow.holds Try.pinned (OpenSpec.ofChange imageKeysWrong)

/-- 'affiantlaw25.ImageCounts': WHATEVER THE INPUT: true; the input reads as it did. -/
def imageCountsSpec : ChangeSpec := { name := "imageCounts", fn := fun _ => fun
  | [d1, d2, d3] => { results := [.lit (.bool true)], args := [d1, d2, d3] }
  | _ => none }
def imageCountsRow : OpenClaim := { program := "ytffofdfikmpanaa", sum := "b482b65a5c0a8679da7a485d1061b10935e9a20e3ee3d858adf71f61e219c24f", func := "affiant/affiantlaw25.ImageCounts", spec := "imageCounts", inPlace := ["internal/bytealg.IndexByte", "internal/bytealg.Index"], unfollowed := true, recurses := true, named := ["internal/bytealg.MaxLen"], apart := false }
def ImageCountsSaid : Prop := imageCountsRow.holds Try.pinned (OpenSpec.ofChange imageCountsSpec)

/-- ITS FALSE NEIGHBOUR: 'it returns false'. Refute it at one input. -/
def imageCountsWrong : ChangeSpec := { name := "imageCounts", fn := fun _ => fun
  | [d1, d2, d3] => { results := [.lit (.bool false)], args := [d1, d2, d3] }
  | _ => none }
def ImageCountsWrongFalsely : Prop := imageCountsRow.holds Try.pinned (OpenSpec.ofChange imageCountsWrong)

/-- 'affiantlaw25.ImageText': WHATEVER THE INPUT: true; the input reads as it did. -/
def imageTextSpec : ChangeSpec := { name := "imageText", fn := fun _ => fun
  | [d1, d2] => { results := [.lit (.bool true)], args := [d1, d2] }
  | _ => none }
def imageTextRow : OpenClaim := { program := "ytffofdfikmpanaa", sum := "b482b65a5c0a8679da7a485d1061b10935e9a20e3ee3d858adf71f61e219c24f", func := "affiant/affiantlaw25.ImageText", spec := "imageText", inPlace := ["internal/bytealg.IndexByte", "internal/bytealg.Index"], unfollowed := true, recurses := true, named := ["internal/bytealg.MaxLen"], apart := false }
def ImageTextSaid : Prop := imageTextRow.holds Try.pinned (OpenSpec.ofChange imageTextSpec)

/-- ITS FALSE NEIGHBOUR: 'it returns false'. Refute it at one input. -/
def imageTextWrong : ChangeSpec := { name := "imageText", fn := fun _ => fun
  | [d1, d2] => { results := [.lit (.bool false)], args := [d1, d2] }
  | _ => none }
def ImageTextWrongFalsely : Prop := imageTextRow.holds Try.pinned (OpenSpec.ofChange imageTextWrong)

/-- 'affiantlaw23.KeyCheck': WHATEVER THE INPUT: true; the input reads as it did. -/
def keyCheckSpec : ChangeSpec := { name := "keyCheck", fn := fun _ => fun
  | [d1, d2] => { results := [.lit (.bool true)], args := [d1, d2] }
  | _ => none }
def keyCheckRow : OpenClaim := { program := "ytffofdfikmpanaa", sum := "b482b65a5c0a8679da7a485d1061b10935e9a20e3ee3d858adf71f61e219c24f", func := "affiant/affiantlaw23.KeyCheck", spec := "keyCheck", inPlace := ["math/bits.Sub64", "math/bits.Add64"], unfollowed := true, recurses := true, apart := false }
def KeyCheckSaid : Prop := keyCheckRow.holds Try.pinned (OpenSpec.ofChange keyCheckSpec)

/-- ITS FALSE NEIGHBOUR: 'it returns false'. Refute it at one input. -/
def keyCheckWrong : ChangeSpec := { name := "keyCheck", fn := fun _ => fun
  | [d1, d2] => { results := [.lit (.bool false)], args := [d1, d2] }
  | _ => none }
def KeyCheckWrongFalsely : Prop := keyCheckRow.holds Try.pinned (OpenSpec.ofChange keyCheckWrong)

/-- 'affiantlaw23.KeyOnly': WHATEVER THE INPUT: true; the input reads as it did. -/
def keyOnlySpec : ChangeSpec := { name := "keyOnly", fn := fun _ => fun
  | [d] => { results := [.lit (.bool true)], args := [d] }
  | _ => none }
def keyOnlyRow : OpenClaim := { program := "ytffofdfikmpanaa", sum := "b482b65a5c0a8679da7a485d1061b10935e9a20e3ee3d858adf71f61e219c24f", func := "affiant/affiantlaw23.KeyOnly", spec := "keyOnly", unfollowed := true, recurses := true, apart := false }
def KeyOnlySaid : Prop := keyOnlyRow.holds Try.pinned (OpenSpec.ofChange keyOnlySpec)

/-- ITS FALSE NEIGHBOUR: 'it returns false'. Refute it at one input. -/
def keyOnlyWrong : ChangeSpec := { name := "keyOnly", fn := fun _ => fun
  | [d] => { results := [.lit (.bool false)], args := [d] }
  | _ => none }
def KeyOnlyWrongFalsely : Prop := keyOnlyRow.holds Try.pinned (OpenSpec.ofChange keyOnlyWrong)

/- THE SECOND FORM. 'bulk': how many values and letters a reading holds, each counted each time it is reached (what is shared counts as often as it is met; a slice's spare places count too). A statement '..UptoSaid' is the law's where the arguments, and the package variables that the reading takes, are together of bulk at most 1048576: NARROWER than '..Said'. Prove '..Said' where nothing that the law and all that it calls make is longer than what came in: it says more and counts as full. Else prove '..UptoSaid'. A law counts once. -/
mutual
def uptoBulk {H : Type} : DataW H → Nat
  | .lit (.string bytes) => bytes.length + 1
  | .lit _ => 1
  | .nil => 1
  | .ptr d => uptoBulk d + 1
  | .slice elems spare => uptoBulkAll elems + uptoBulkAll spare + 1
  | .agg parts => uptoBulkAll parts + 1
  | .iface _ d => uptoBulk d + 1
  | .map entries => uptoBulkEntries entries + 1
  | .held _ => 1
def uptoBulkAll {H : Type} : List (DataW H) → Nat
  | [] => 0
  | d :: r => uptoBulk d + uptoBulkAll r
def uptoBulkEntries {H : Type} : List (Lit × DataW H) → Nat
  | [] => 0
  | x :: r => uptoBulkEntry x + uptoBulkEntries r
def uptoBulkEntry {H : Type} : Lit × DataW H → Nat
  | (.string bytes, d) => bytes.length + uptoBulk d + 1
  | (_, d) => uptoBulk d + 1
 end
def uptoSmall : (H : Type) → List (DataW H) → Bool := fun _ ds => decide (uptoBulkAll ds ≤ 1048576)
def OpenSpec.upto (s : _root_.Go.ChangeSpec) : _root_.Go.OpenSpec := { _root_.Go.OpenSpec.ofChange s with cond := some uptoSmall }

/-- 'affiantlaw23.KeyBack', WHERE WHAT IT READS IS OF BULK AT MOST 1048576: true; the input reads as it did. -/
def keyBackUptoRow : OpenClaim := { program := "ytffofdfikmpanaa", sum := "b482b65a5c0a8679da7a485d1061b10935e9a20e3ee3d858adf71f61e219c24f", func := "affiant/affiantlaw23.KeyBack", spec := "keyBack", unfollowed := true, recurses := true, apart := false, narrowed := true }
def KeyBackUptoSaid : Prop := keyBackUptoRow.holds Try.pinned (OpenSpec.upto keyBackSpec)

/-- 'affiantlaw25.ImageKeys', WHERE WHAT IT READS IS OF BULK AT MOST 1048576: true; the input reads as it did. -/
def imageKeysUptoRow : OpenClaim := { program := "ytffofdfikmpanaa", sum := "b482b65a5c0a8679da7a485d1061b10935e9a20e3ee3d858adf71f61e219c24f", func := "affiant/affiantlaw25.ImageKeys", spec := "imageKeys", unfollowed := true, recurses := true, apart := false, narrowed := true }
def ImageKeysUptoSaid : Prop := imageKeysUptoRow.holds Try.pinned (OpenSpec.upto imageKeysSpec)

/-- 'affiantlaw25.ImageCounts', WHERE WHAT IT READS IS OF BULK AT MOST 1048576: true; the input reads as it did. -/
def imageCountsUptoRow : OpenClaim := { program := "ytffofdfikmpanaa", sum := "b482b65a5c0a8679da7a485d1061b10935e9a20e3ee3d858adf71f61e219c24f", func := "affiant/affiantlaw25.ImageCounts", spec := "imageCounts", inPlace := ["internal/bytealg.IndexByte", "internal/bytealg.Index"], unfollowed := true, recurses := true, named := ["internal/bytealg.MaxLen"], apart := false, narrowed := true }
def ImageCountsUptoSaid : Prop := imageCountsUptoRow.holds Try.pinned (OpenSpec.upto imageCountsSpec)

/-- 'affiantlaw25.ImageText', WHERE WHAT IT READS IS OF BULK AT MOST 1048576: true; the input reads as it did. -/
def imageTextUptoRow : OpenClaim := { program := "ytffofdfikmpanaa", sum := "b482b65a5c0a8679da7a485d1061b10935e9a20e3ee3d858adf71f61e219c24f", func := "affiant/affiantlaw25.ImageText", spec := "imageText", inPlace := ["internal/bytealg.IndexByte", "internal/bytealg.Index"], unfollowed := true, recurses := true, named := ["internal/bytealg.MaxLen"], apart := false, narrowed := true }
def ImageTextUptoSaid : Prop := imageTextUptoRow.holds Try.pinned (OpenSpec.upto imageTextSpec)

/-- 'affiantlaw23.KeyCheck', WHERE WHAT IT READS IS OF BULK AT MOST 1048576: true; the input reads as it did. -/
def keyCheckUptoRow : OpenClaim := { program := "ytffofdfikmpanaa", sum := "b482b65a5c0a8679da7a485d1061b10935e9a20e3ee3d858adf71f61e219c24f", func := "affiant/affiantlaw23.KeyCheck", spec := "keyCheck", inPlace := ["math/bits.Sub64", "math/bits.Add64"], unfollowed := true, recurses := true, apart := false, narrowed := true }
def KeyCheckUptoSaid : Prop := keyCheckUptoRow.holds Try.pinned (OpenSpec.upto keyCheckSpec)

/-- 'affiantlaw23.KeyOnly', WHERE WHAT IT READS IS OF BULK AT MOST 1048576: true; the input reads as it did. -/
def keyOnlyUptoRow : OpenClaim := { program := "ytffofdfikmpanaa", sum := "b482b65a5c0a8679da7a485d1061b10935e9a20e3ee3d858adf71f61e219c24f", func := "affiant/affiantlaw23.KeyOnly", spec := "keyOnly", unfollowed := true, recurses := true, apart := false, narrowed := true }
def KeyOnlyUptoSaid : Prop := keyOnlyUptoRow.holds Try.pinned (OpenSpec.upto keyOnlySpec)

end Rows
end Go.Proofs.Ytffofdfikmpanaa
