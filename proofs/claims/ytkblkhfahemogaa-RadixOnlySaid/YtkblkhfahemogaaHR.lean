/- The laws' rows, closed: what the functions come to, carried to the given statements. Conditions: none. -/
import Derived.Test.YtkblkhfahemogaaLD
import Derived.Test.YtkblkhfahemogaaPR
set_option linter.unusedVariables false
set_option linter.unusedSimpArgs false
set_option linter.constructorNameAsVariable false
set_option linter.unusedSectionVars false

namespace Go.Proofs.Ytkblkhfahemogaa.A
open Go Go.Proofs Go.ChangeShapes Go.WideShapes Go.ChangeAt Go.RowKit
set_option linter.unusedVariables false

theorem own0 : ownKnob Try.prog.godebug = none := by kernel_rfl
theorem laid0 : laidOutB Try.prog = true := by kernel_rfl
theorem mixed0 : Try.prog.follows .mixedOrders = true := by kernel_rfl
theorem same0 : HSound Try.prog HH := by
  intro f hf x w
  have hf : (f == 26) = true := hf
  obtain rfl : f = 26 := by simpa using hf
  rw [run_callFunc_extern Try.func26 (by kernel_rfl) (by kernel_rfl) (by kernel_rfl) (e := Extern.AbiNoEscape.same) (by kernel_rfl)]
  rfl
theorem noSp0 : KSound Try.prog (fun f args => match noSp f with | some g => g args | none => none) := fun f args r outs n h => by simp [noSp] at h
theorem ks (n : Nat) : KSound Try.prog (callN Try.prog HH noSp n) := callN_sound mixed0 same0 noSp0 n

theorem PRep.snap {w : World} {Z : Nat → Prop} {ex : Bool} {sz : Nat} {es : List V} {c : Value} (h : PRep w Z Z (.sl false ex sz es) c) : PRep w Z Z (.sl true ex sz es) c := by
  cases h with
  | sl0 _ _ _ a cap he => exact .sl0 _ _ _ a cap he
  | sl _ _ _ _ b off cap he hc hz hcl h1 hd h => exact .sl _ _ _ _ b off cap he hc hz hcl h1 hd h

set_option maxRecDepth 100000 in
theorem RadixEncode_lifted (os : Go.Os) (started : os.Started) (H : Type) (enc : TypeId × Value → H) :
    ReturnsInHanded {} Try.checked os 3 .any (Rows.radixEncodeSpec.pre6 enc Try.prog Try.f3 Rows.radixEncodeRow.domain false) (Rows.radixEncodeSpec.post enc Try.prog Try.f3 false true false false) := by
  refine returnsInHanded_of_change (C := Try.checked) own0 started (by kernel_rfl) Try.func3
    (ChangeSpec.witness6 (enc := enc) (C := Try.checked) false ⟨#[], #[.slice none 0 0], []⟩ 8 (by kernel_rfl) (by kernel_rfl) (by kernel_rfl) (by kernel_rfl)) ?_
  intro W base args ds gs before hval0 hW hcnd _
  have hval : ∀ (j : Nat) t v, Try.f3.params[j]? = some t → args[j]? = some v → Value.okWide Try.prog W .any base t v := hval0
  have hW' := hW
  obtain ⟨p, q, hA0, hV, rfl, hfz, hnd⟩ := hW
  obtain ⟨rfl, rfl⟩ := trodVars_none hV
  have hA : DataW.TrodAll enc Try.prog W 0 (fun _ => true) true Try.f3.params.toList args.toList ds p := hA0
  rw [Try.params3] at hA hval
  obtain ⟨v0, d0, rfl, rfl, h0⟩ := trodAll_one hA
  obtain ⟨x0, k0, _⟩ := (Opens.slice (w := W) Try.underlying22 (by decide +kernel) (Opens.byte (w := W) Try.underlying5)).arg (fun _ => by rw [Try.underlying22]; rfl) (hval 0 22 v0 rfl rfl) h0
  refine (law_run (ks 6) (f := 3) (n := Try.f3.ntmps) (vs := [.sl true false 1 (bytesV x0)]) (vals := [v0]) (by kernel_rfl) (Nat.le_of_ble_eq_true (by kernel_rfl)) (t_affiantlaw02_RadixEncode 6 (by decide) (bytesV x0) true (law_RadixEncode x0)) rfl (fun i v c hv hc => ?_)).mono fun e W' he => ?_
  · match i with
    | 0 => cases hv; cases hc; exact PRep.snap k0
    | n + 1 => simp at hv
  obtain ⟨rfl, hb⟩ := he
  exact ⟨_, rfl, law_post laid0 (by kernel_rfl) rfl hW' rfl rfl Try.underlying4 hb⟩

theorem RadixEncode_holds : Rows.RadixEncodeSaid :=
  OpenClaim.holds_of_wide 3 Try.f3 rfl rfl rfl rfl rfl rfl rfl ⟨rfl, rfl, rfl, rfl, rfl⟩ rfl rfl rfl rfl rfl (by kernel_rfl) Try.func3 (by kernel_rfl)
    (of_decide_eq_true (by kernel_rfl)) (by unfold Func.isWrapper; first | (rw [if_pos (by decide +kernel)]; kernel_rfl) | (rw [if_neg (by decide +kernel)]; exact ⟨rfl, rfl⟩))
    (fun os started H enc _ => RadixEncode_lifted os started H enc)

set_option maxRecDepth 100000 in
theorem RadixDecode_lifted (os : Go.Os) (started : os.Started) (H : Type) (enc : TypeId × Value → H) :
    ReturnsInHanded {} Try.checked os 4 .any (Rows.radixDecodeSpec.pre6 enc Try.prog Try.f4 Rows.radixDecodeRow.domain false) (Rows.radixDecodeSpec.post enc Try.prog Try.f4 false true false false) := by
  refine returnsInHanded_of_change (C := Try.checked) own0 started (by kernel_rfl) Try.func4
    (ChangeSpec.witness6 (enc := enc) (C := Try.checked) false ⟨#[], #[.string ⟨#[]⟩], []⟩ 8 (by kernel_rfl) (by kernel_rfl) (by kernel_rfl) (by kernel_rfl)) ?_
  intro W base args ds gs before hval0 hW hcnd _
  have hval : ∀ (j : Nat) t v, Try.f4.params[j]? = some t → args[j]? = some v → Value.okWide Try.prog W .any base t v := hval0
  have hW' := hW
  obtain ⟨p, q, hA0, hV, rfl, hfz, hnd⟩ := hW
  obtain ⟨rfl, rfl⟩ := trodVars_none hV
  have hA : DataW.TrodAll enc Try.prog W 0 (fun _ => true) true Try.f4.params.toList args.toList ds p := hA0
  rw [Try.params4] at hA hval
  obtain ⟨v0, d0, rfl, rfl, h0⟩ := trodAll_one hA
  obtain ⟨x0, k0, _⟩ := (Opens.str (w := W) Try.underlying9).arg (fun _ => by rw [Try.underlying9]; rfl) (hval 0 9 v0 rfl rfl) h0
  refine (law_run (ks 6) (f := 4) (n := Try.f4.ntmps) (vs := [.str x0]) (vals := [v0]) (by kernel_rfl) (Nat.le_of_ble_eq_true (by kernel_rfl)) (t_affiantlaw02_RadixDecode 6 (by decide) (x0) true (law_RadixDecode x0)) rfl (fun i v c hv hc => ?_)).mono fun e W' he => ?_
  · match i with
    | 0 => cases hv; cases hc; exact k0
    | n + 1 => simp at hv
  obtain ⟨rfl, hb⟩ := he
  exact ⟨_, rfl, law_post laid0 (by kernel_rfl) rfl hW' rfl rfl Try.underlying4 hb⟩

theorem RadixDecode_holds : Rows.RadixDecodeSaid :=
  OpenClaim.holds_of_wide 4 Try.f4 rfl rfl rfl rfl rfl rfl rfl ⟨rfl, rfl, rfl, rfl, rfl⟩ rfl rfl rfl rfl rfl (by kernel_rfl) Try.func4 (by kernel_rfl)
    (of_decide_eq_true (by kernel_rfl)) (by unfold Func.isWrapper; first | (rw [if_pos (by decide +kernel)]; kernel_rfl) | (rw [if_neg (by decide +kernel)]; exact ⟨rfl, rfl⟩))
    (fun os started H enc _ => RadixDecode_lifted os started H enc)

set_option maxRecDepth 100000 in
theorem RadixBack_lifted (os : Go.Os) (started : os.Started) (H : Type) (enc : TypeId × Value → H) :
    ReturnsInHanded {} Try.checked os 5 .any (Rows.radixBackSpec.pre6 enc Try.prog Try.f5 Rows.radixBackRow.domain false) (Rows.radixBackSpec.post enc Try.prog Try.f5 false true false false) := by
  refine returnsInHanded_of_change (C := Try.checked) own0 started (by kernel_rfl) Try.func5
    (ChangeSpec.witness6 (enc := enc) (C := Try.checked) false ⟨#[], #[.slice none 0 0], []⟩ 8 (by kernel_rfl) (by kernel_rfl) (by kernel_rfl) (by kernel_rfl)) ?_
  intro W base args ds gs before hval0 hW hcnd _
  have hval : ∀ (j : Nat) t v, Try.f5.params[j]? = some t → args[j]? = some v → Value.okWide Try.prog W .any base t v := hval0
  have hW' := hW
  obtain ⟨p, q, hA0, hV, rfl, hfz, hnd⟩ := hW
  obtain ⟨rfl, rfl⟩ := trodVars_none hV
  have hA : DataW.TrodAll enc Try.prog W 0 (fun _ => true) true Try.f5.params.toList args.toList ds p := hA0
  rw [Try.params5] at hA hval
  obtain ⟨v0, d0, rfl, rfl, h0⟩ := trodAll_one hA
  obtain ⟨x0, k0, _⟩ := (Opens.slice (w := W) Try.underlying22 (by decide +kernel) (Opens.byte (w := W) Try.underlying5)).arg (fun _ => by rw [Try.underlying22]; rfl) (hval 0 22 v0 rfl rfl) h0
  refine (law_run (ks 6) (f := 5) (n := Try.f5.ntmps) (vs := [.sl true false 1 (bytesV x0)]) (vals := [v0]) (by kernel_rfl) (Nat.le_of_ble_eq_true (by kernel_rfl)) (t_affiantlaw02_RadixBack 6 (by decide) (bytesV x0) true (law_RadixBack x0)) rfl (fun i v c hv hc => ?_)).mono fun e W' he => ?_
  · match i with
    | 0 => cases hv; cases hc; exact PRep.snap k0
    | n + 1 => simp at hv
  obtain ⟨rfl, hb⟩ := he
  exact ⟨_, rfl, law_post laid0 (by kernel_rfl) rfl hW' rfl rfl Try.underlying4 hb⟩

theorem RadixBack_holds : Rows.RadixBackSaid :=
  OpenClaim.holds_of_wide 5 Try.f5 rfl rfl rfl rfl rfl rfl rfl ⟨rfl, rfl, rfl, rfl, rfl⟩ rfl rfl rfl rfl rfl (by kernel_rfl) Try.func5 (by kernel_rfl)
    (of_decide_eq_true (by kernel_rfl)) (by unfold Func.isWrapper; first | (rw [if_pos (by decide +kernel)]; kernel_rfl) | (rw [if_neg (by decide +kernel)]; exact ⟨rfl, rfl⟩))
    (fun os started H enc _ => RadixBack_lifted os started H enc)

set_option maxRecDepth 100000 in
theorem RadixOnly_lifted (os : Go.Os) (started : os.Started) (H : Type) (enc : TypeId × Value → H) :
    ReturnsInHanded {} Try.checked os 6 .any (Rows.radixOnlySpec.pre6 enc Try.prog Try.f6 Rows.radixOnlyRow.domain false) (Rows.radixOnlySpec.post enc Try.prog Try.f6 false true false false) := by
  refine returnsInHanded_of_change (C := Try.checked) own0 started (by kernel_rfl) Try.func6
    (ChangeSpec.witness6 (enc := enc) (C := Try.checked) false ⟨#[], #[.string ⟨#[]⟩], []⟩ 8 (by kernel_rfl) (by kernel_rfl) (by kernel_rfl) (by kernel_rfl)) ?_
  intro W base args ds gs before hval0 hW hcnd _
  have hval : ∀ (j : Nat) t v, Try.f6.params[j]? = some t → args[j]? = some v → Value.okWide Try.prog W .any base t v := hval0
  have hW' := hW
  obtain ⟨p, q, hA0, hV, rfl, hfz, hnd⟩ := hW
  obtain ⟨rfl, rfl⟩ := trodVars_none hV
  have hA : DataW.TrodAll enc Try.prog W 0 (fun _ => true) true Try.f6.params.toList args.toList ds p := hA0
  rw [Try.params6] at hA hval
  obtain ⟨v0, d0, rfl, rfl, h0⟩ := trodAll_one hA
  obtain ⟨x0, k0, _⟩ := (Opens.str (w := W) Try.underlying9).arg (fun _ => by rw [Try.underlying9]; rfl) (hval 0 9 v0 rfl rfl) h0
  refine (law_run (ks 6) (f := 6) (n := Try.f6.ntmps) (vs := [.str x0]) (vals := [v0]) (by kernel_rfl) (Nat.le_of_ble_eq_true (by kernel_rfl)) (t_affiantlaw02_RadixOnly 6 (by decide) (x0) true (law_RadixOnly x0)) rfl (fun i v c hv hc => ?_)).mono fun e W' he => ?_
  · match i with
    | 0 => cases hv; cases hc; exact k0
    | n + 1 => simp at hv
  obtain ⟨rfl, hb⟩ := he
  exact ⟨_, rfl, law_post laid0 (by kernel_rfl) rfl hW' rfl rfl Try.underlying4 hb⟩

theorem RadixOnly_holds : Rows.RadixOnlySaid :=
  OpenClaim.holds_of_wide 6 Try.f6 rfl rfl rfl rfl rfl rfl rfl ⟨rfl, rfl, rfl, rfl, rfl⟩ rfl rfl rfl rfl rfl (by kernel_rfl) Try.func6 (by kernel_rfl)
    (of_decide_eq_true (by kernel_rfl)) (by unfold Func.isWrapper; first | (rw [if_pos (by decide +kernel)]; kernel_rfl) | (rw [if_neg (by decide +kernel)]; exact ⟨rfl, rfl⟩))
    (fun os started H enc _ => RadixOnly_lifted os started H enc)

set_option maxRecDepth 100000 in
theorem RadixLetter_lifted (os : Go.Os) (started : os.Started) (H : Type) (enc : TypeId × Value → H) :
    ReturnsInHanded {} Try.checked os 7 .any (Rows.radixLetterSpec.pre6 enc Try.prog Try.f7 Rows.radixLetterRow.domain false) (Rows.radixLetterSpec.post enc Try.prog Try.f7 false true false false) := by
  refine returnsInHanded_of_change (C := Try.checked) own0 started (by kernel_rfl) Try.func7
    (ChangeSpec.witness6 (enc := enc) (C := Try.checked) false ⟨#[], #[.int .i64 0, .int .u8 0], []⟩ 8 (by kernel_rfl) (by kernel_rfl) (by kernel_rfl) (by kernel_rfl)) ?_
  intro W base args ds gs before hval0 hW hcnd _
  have hval : ∀ (j : Nat) t v, Try.f7.params[j]? = some t → args[j]? = some v → Value.okWide Try.prog W .any base t v := hval0
  have hW' := hW
  obtain ⟨p, q, hA0, hV, rfl, hfz, hnd⟩ := hW
  obtain ⟨rfl, rfl⟩ := trodVars_none hV
  have hA : DataW.TrodAll enc Try.prog W 0 (fun _ => true) true Try.f7.params.toList args.toList ds p := hA0
  rw [Try.params7] at hA hval
  obtain ⟨v0, v1, d0, d1, p0, p1, rfl, rfl, rfl, h0, h1⟩ := trodAll_two hA
  obtain ⟨x0, k0, _⟩ := (Opens.int (w := W) Try.underlying3).arg (fun _ => by rw [Try.underlying3]; rfl) (hval 0 3 v0 rfl rfl) h0
  obtain ⟨x1, k1, _⟩ := (Opens.byte (w := W) Try.underlying5).arg (fun _ => by rw [Try.underlying5]; rfl) (hval 1 5 v1 rfl rfl) h1
  refine (law_run (ks 6) (f := 7) (n := Try.f7.ntmps) (vs := [.int .i64 x0.1, byteV x1]) (vals := [v0, v1]) (by kernel_rfl) (Nat.le_of_ble_eq_true (by kernel_rfl)) (t_affiantlaw02_RadixLetter 6 (by decide) (x0.1, (x1.toNat : Int)) true (law_RadixLetter x0.1 x1)) rfl (fun i v c hv hc => ?_)).mono fun e W' he => ?_
  · match i with
    | 0 => cases hv; cases hc; exact k0
    | 1 => cases hv; cases hc; exact k1
    | n + 2 => simp at hv
  obtain ⟨rfl, hb⟩ := he
  exact ⟨_, rfl, law_post laid0 (by kernel_rfl) rfl hW' rfl rfl Try.underlying4 hb⟩

theorem RadixLetter_holds : Rows.RadixLetterSaid :=
  OpenClaim.holds_of_wide 7 Try.f7 rfl rfl rfl rfl rfl rfl rfl ⟨rfl, rfl, rfl, rfl, rfl⟩ rfl rfl rfl rfl rfl (by kernel_rfl) Try.func7 (by kernel_rfl)
    (of_decide_eq_true (by kernel_rfl)) (by unfold Func.isWrapper; first | (rw [if_pos (by decide +kernel)]; kernel_rfl) | (rw [if_neg (by decide +kernel)]; exact ⟨rfl, rfl⟩))
    (fun os started H enc _ => RadixLetter_lifted os started H enc)

end Go.Proofs.Ytkblkhfahemogaa.A
