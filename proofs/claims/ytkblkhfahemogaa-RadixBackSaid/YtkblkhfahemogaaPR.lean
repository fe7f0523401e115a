/- The laws of radix in plain terms. Conditions: none. -/
import Derived.Test.YtkblkhfahemogaaG1
import Derived.Test.YtkblkhfahemogaaLE
set_option linter.unusedVariables false
set_option linter.unusedSimpArgs false
set_option linter.constructorNameAsVariable false
set_option linter.unusedSectionVars false

namespace Go.Proofs.Ytkblkhfahemogaa.A
open Go Go.Proofs
set_option linter.unusedVariables false
set_option linter.unusedSimpArgs false
set_option maxRecDepth 10000

theorem nt5 : nilTy ≠ (5 : Nat) := by decide

theorem wb_eq (b : Bool) (o : Option (List V)) (y : Int) (h : (o.getD []).length + 1 ≤ 2147483648) :
    F_strings_Builder_WriteByte (bSt 5 b o, y) = some ((), bSt 5 true (some (o.getD [] ++ [.int .u8 y])), ()) := by
  unfold F_strings_Builder_WriteByte
  simp only [bSt?_bSt nt5, Option.bind_some]
  rcases o with _ | _ | ⟨a, r⟩ <;> cases b <;> simp [bSt, npT, onT] at h ⊢ <;> omega

theorem str_eq (b : Bool) (a : UInt8) (l : List UInt8) (h : l.length + 1 ≤ 2147483648) : ∃ l', l'.length = 2 ∧ F_strings_Builder_String (bSt 5 b (some (bytesV (a :: l)))) = some (a :: l, l') := by
  unfold F_strings_Builder_String
  simp only [bSt?_bSt nt5, Option.bind_some]
  cases b <;> simp only [bytesV_cons]
  all_goals
    rw [if_pos (by simp; omega)]
    have : (List.take (↑(byteV a :: bytesV l).length : Int).toNat (byteV a :: bytesV l)) = bytesV (a :: l) := by rw [Int.toNat_natCast, List.take_length]; rfl
    rw [this, unbytes_bytesV]
    exact ⟨_, by simp, rfl⟩

theorem str_nil (b : Bool) : ∃ l', l'.length = 2 ∧ F_strings_Builder_String (bSt 5 b none) = some ([], l') := by
  unfold F_strings_Builder_String
  simp only [bSt?_bSt nt5, Option.bind_some]
  cases b
  · exact ⟨_, by simp, rfl⟩
  · exact ⟨_, by simp, rfl⟩

/-! ### Encoding -/

def lets : List UInt8 := [65, 66, 67, 68, 69, 70, 71, 72, 73, 74, 75, 76, 77, 78, 79, 80, 81, 82, 83, 84, 85, 86, 87, 88, 89, 90, 97, 98, 99, 100, 101, 102, 103, 104, 105, 106, 107, 108, 109, 110, 111, 112, 113, 114, 115, 116, 117, 118, 119, 120, 121, 122, 48, 49, 50, 51, 52, 53, 54, 55, 56, 57, 43, 47]
def letOf (n : Nat) : UInt8 := lets.getD n 0

def enc : List UInt8 → List UInt8
  | a :: b :: c :: r => letOf (a.toNat / 4) :: letOf (a.toNat % 4 * 16 + b.toNat / 16) :: letOf (b.toNat % 16 * 4 + c.toNat / 64) :: letOf (c.toNat % 64) :: enc r
  | [a, b] => [letOf (a.toNat / 4), letOf (a.toNat % 4 * 16 + b.toNat / 16), letOf (b.toNat % 16 * 4), 61]
  | [a] => [letOf (a.toNat / 4), letOf (a.toNat % 4 * 16), 61, 61]
  | [] => []

theorem lets_get {n : Nat} (h : n < 64) : lets[n]? = some (letOf n) := by
  unfold letOf
  rw [List.getD_eq_getElem?_getD]
  have : n < lets.length := h
  rw [List.getElem?_eq_getElem this]; rfl

/-- The number that a group's bytes are. -/
def num3 (a b c : Nat) : Nat := (a * 256 + b) * 256 + c

end Go.Proofs.Ytkblkhfahemogaa.A

namespace Go.Proofs.Ytkblkhfahemogaa.A
open Go Go.Proofs
set_option linter.unusedVariables false
set_option linter.unusedSimpArgs false
set_option maxRecDepth 10000

theorem shl8 {x : Int} (h : 0 ≤ x) (h2 : x < 65536) : wordShl .i64 x 8 = x * 256 := wordShl_int 256 (by decide) (by decide) (by decide) (by omega) (by omega)
theorem or8 {x y : Int} (h : 0 ≤ x) (h2 : x < 65536) (hy : 0 ≤ y) (hy2 : y < 256) : wordOr .i64 (x * 256) y = x * 256 + y := wordOr_add 8 256 (by decide) h hy hy2 (by omega)
theorem or0 {x : Int} (h : 0 ≤ x) (h2 : x < 9223372036854775808) : wordOr .i64 0 x = x := by
  rw [wordOr_int (by decide) (by decide) h h2]; simp; omega
theorem shr0 (x : Int) : wordShr .i64 x 0 = x := (wordShr_int 1 (by decide) (by decide) (by decide)).trans (by omega)
theorem shr6 (x : Int) : wordShr .i64 x 6 = x / 64 := wordShr_int 64 (by decide) (by decide) (by decide)
theorem shr12 (x : Int) : wordShr .i64 x 12 = x / 4096 := wordShr_int 4096 (by decide) (by decide) (by decide)
theorem shr18 (x : Int) : wordShr .i64 x 18 = x / 262144 := wordShr_int 262144 (by decide) (by decide) (by decide)
theorem and63 {x : Int} (h : 0 ≤ x) (h2 : x < 9223372036854775808) : wordAnd .i64 x 63 = x % 64 := wordAnd_low 6 64 (by decide) h h2 (by decide)
theorem lets_at {n : Nat} (h : n < 64) : ([65, 66, 67, 68, 69, 70, 71, 72, 73, 74, 75, 76, 77, 78, 79, 80, 81, 82, 83, 84, 85, 86, 87, 88, 89, 90, 97, 98, 99, 100, 101, 102, 103, 104, 105, 106, 107, 108, 109, 110, 111, 112, 113, 114, 115, 116, 117, 118, 119, 120, 121, 122, 48, 49, 50, 51, 52, 53, 54, 55, 56, 57, 43, 47] : List UInt8)[n]? = some (letOf n) := lets_get h

theorem grp1 (b : Bool) (o : Option (List V)) (a1 : UInt8) (h : (o.getD []).length + 4 ≤ 2147483648) :
    F_radix_group (bSt 5 b o, bytesV [a1]) = some ((), bSt 5 true (some (o.getD [] ++ bytesV (enc [a1]))), ()) := by
  have h_a1 := u8_lt a1
  unfold F_radix_group
  dsimp only
  simp only [decide_eq_true_eq]
  rw [loopO_inl (s' := (bytesV [a1], (a1.toNat : Int), (1 : Int))) (by simp (disch := omega) [List.getElem?_cons_zero, List.getElem?_cons_succ, shl8, or8, or0, wrap_in])]
  rw [loopO_inl (s' := (bytesV [a1], ((a1.toNat : Int) * 256), (2 : Int))) (by simp (disch := omega) [List.getElem?_cons_zero, List.getElem?_cons_succ, shl8, or8, or0, wrap_in])]
  rw [loopO_inl (s' := (bytesV [a1], (((a1.toNat : Int) * 256) * 256), (3 : Int))) (by simp (disch := omega) [List.getElem?_cons_zero, List.getElem?_cons_succ, shl8, or8, or0, wrap_in])]
  refine loopO_inr ?_
  rw [if_neg (show ¬ ((3 : Int) < 3) by decide)]
  rw [loopO_inl (s' := ((), bytesV [a1], (((a1.toNat : Int) * 256) * 256), (1 : Int), bSt 5 true (some (o.getD [] ++ bytesV [letOf (a1.toNat / 4)])))) (by
    have e : (((((a1.toNat : Int) * 256) * 256) / 262144) % 64 : Int).toNat = a1.toNat / 4 := by omega
    simp (disch := omega) [wrap_in, shr0, shr6, shr12, shr18, and63]
    refine ⟨by omega, ?_⟩
    rw [e, lets_at (by omega), Option.bind_some, wb_eq _ _ _ (by first | omega | (simp; omega))]
    simp [byteV, List.append_assoc])]
  rw [loopO_inl (s' := ((), bytesV [a1], (((a1.toNat : Int) * 256) * 256), (2 : Int), bSt 5 true (some (o.getD [] ++ bytesV [letOf (a1.toNat / 4), letOf (a1.toNat % 4 * 16)])))) (by
    have e : (((((a1.toNat : Int) * 256) * 256) / 4096) % 64 : Int).toNat = a1.toNat % 4 * 16 := by omega
    simp (disch := omega) [wrap_in, shr0, shr6, shr12, shr18, and63]
    refine ⟨by omega, ?_⟩
    rw [e, lets_at (by omega), Option.bind_some, wb_eq _ _ _ (by first | omega | (simp; omega))]
    simp [byteV, List.append_assoc])]
  rw [loopO_inl (s' := ((), bytesV [a1], (((a1.toNat : Int) * 256) * 256), (3 : Int), bSt 5 true (some (o.getD [] ++ bytesV [letOf (a1.toNat / 4), letOf (a1.toNat % 4 * 16), 61])))) (by
    simp (disch := omega) [wrap_in]
    rw [wb_eq _ _ _ (by first | omega | (simp; omega))]
    simp [byteV, List.append_assoc])]
  rw [loopO_inl (s' := ((), bytesV [a1], (((a1.toNat : Int) * 256) * 256), (4 : Int), bSt 5 true (some (o.getD [] ++ bytesV [letOf (a1.toNat / 4), letOf (a1.toNat % 4 * 16), 61, 61])))) (by
    simp (disch := omega) [wrap_in]
    rw [wb_eq _ _ _ (by first | omega | (simp; omega))]
    simp [byteV, List.append_assoc])]
  rw [loopO_inr (r := ((), bSt 5 true (some (o.getD [] ++ bytesV (enc [a1]))), ())) (by simp [bSt_stab', enc])]
  rfl

theorem grp2 (b : Bool) (o : Option (List V)) (a1 a2 : UInt8) (h : (o.getD []).length + 4 ≤ 2147483648) :
    F_radix_group (bSt 5 b o, bytesV [a1, a2]) = some ((), bSt 5 true (some (o.getD [] ++ bytesV (enc [a1, a2]))), ()) := by
  have h_a1 := u8_lt a1
  have h_a2 := u8_lt a2
  unfold F_radix_group
  dsimp only
  simp only [decide_eq_true_eq]
  rw [loopO_inl (s' := (bytesV [a1, a2], (a1.toNat : Int), (1 : Int))) (by simp (disch := omega) [List.getElem?_cons_zero, List.getElem?_cons_succ, shl8, or8, or0, wrap_in])]
  rw [loopO_inl (s' := (bytesV [a1, a2], ((a1.toNat : Int) * 256 + (a2.toNat : Int)), (2 : Int))) (by simp (disch := omega) [List.getElem?_cons_zero, List.getElem?_cons_succ, shl8, or8, or0, wrap_in])]
  rw [loopO_inl (s' := (bytesV [a1, a2], (((a1.toNat : Int) * 256 + (a2.toNat : Int)) * 256), (3 : Int))) (by simp (disch := omega) [List.getElem?_cons_zero, List.getElem?_cons_succ, shl8, or8, or0, wrap_in])]
  refine loopO_inr ?_
  rw [if_neg (show ¬ ((3 : Int) < 3) by decide)]
  rw [loopO_inl (s' := ((), bytesV [a1, a2], (((a1.toNat : Int) * 256 + (a2.toNat : Int)) * 256), (1 : Int), bSt 5 true (some (o.getD [] ++ bytesV [letOf (a1.toNat / 4)])))) (by
    have e : (((((a1.toNat : Int) * 256 + (a2.toNat : Int)) * 256) / 262144) % 64 : Int).toNat = a1.toNat / 4 := by omega
    simp (disch := omega) [wrap_in, shr0, shr6, shr12, shr18, and63]
    refine ⟨by omega, ?_⟩
    rw [e, lets_at (by omega), Option.bind_some, wb_eq _ _ _ (by first | omega | (simp; omega))]
    simp [byteV, List.append_assoc])]
  rw [loopO_inl (s' := ((), bytesV [a1, a2], (((a1.toNat : Int) * 256 + (a2.toNat : Int)) * 256), (2 : Int), bSt 5 true (some (o.getD [] ++ bytesV [letOf (a1.toNat / 4), letOf (a1.toNat % 4 * 16 + a2.toNat / 16)])))) (by
    have e : (((((a1.toNat : Int) * 256 + (a2.toNat : Int)) * 256) / 4096) % 64 : Int).toNat = a1.toNat % 4 * 16 + a2.toNat / 16 := by omega
    simp (disch := omega) [wrap_in, shr0, shr6, shr12, shr18, and63]
    refine ⟨by omega, ?_⟩
    rw [e, lets_at (by omega), Option.bind_some, wb_eq _ _ _ (by first | omega | (simp; omega))]
    simp [byteV, List.append_assoc])]
  rw [loopO_inl (s' := ((), bytesV [a1, a2], (((a1.toNat : Int) * 256 + (a2.toNat : Int)) * 256), (3 : Int), bSt 5 true (some (o.getD [] ++ bytesV [letOf (a1.toNat / 4), letOf (a1.toNat % 4 * 16 + a2.toNat / 16), letOf (a2.toNat % 16 * 4)])))) (by
    have e : (((((a1.toNat : Int) * 256 + (a2.toNat : Int)) * 256) / 64) % 64 : Int).toNat = a2.toNat % 16 * 4 := by omega
    simp (disch := omega) [wrap_in, shr0, shr6, shr12, shr18, and63]
    refine ⟨by omega, ?_⟩
    rw [e, lets_at (by omega), Option.bind_some, wb_eq _ _ _ (by first | omega | (simp; omega))]
    simp [byteV, List.append_assoc])]
  rw [loopO_inl (s' := ((), bytesV [a1, a2], (((a1.toNat : Int) * 256 + (a2.toNat : Int)) * 256), (4 : Int), bSt 5 true (some (o.getD [] ++ bytesV [letOf (a1.toNat / 4), letOf (a1.toNat % 4 * 16 + a2.toNat / 16), letOf (a2.toNat % 16 * 4), 61])))) (by
    simp (disch := omega) [wrap_in]
    rw [wb_eq _ _ _ (by first | omega | (simp; omega))]
    simp [byteV, List.append_assoc])]
  rw [loopO_inr (r := ((), bSt 5 true (some (o.getD [] ++ bytesV (enc [a1, a2]))), ())) (by simp [bSt_stab', enc])]
  rfl

theorem grp3 (b : Bool) (o : Option (List V)) (a1 a2 a3 : UInt8) (h : (o.getD []).length + 4 ≤ 2147483648) :
    F_radix_group (bSt 5 b o, bytesV [a1, a2, a3]) = some ((), bSt 5 true (some (o.getD [] ++ bytesV (enc [a1, a2, a3]))), ()) := by
  have h_a1 := u8_lt a1
  have h_a2 := u8_lt a2
  have h_a3 := u8_lt a3
  unfold F_radix_group
  dsimp only
  simp only [decide_eq_true_eq]
  rw [loopO_inl (s' := (bytesV [a1, a2, a3], (a1.toNat : Int), (1 : Int))) (by simp (disch := omega) [List.getElem?_cons_zero, List.getElem?_cons_succ, shl8, or8, or0, wrap_in])]
  rw [loopO_inl (s' := (bytesV [a1, a2, a3], ((a1.toNat : Int) * 256 + (a2.toNat : Int)), (2 : Int))) (by simp (disch := omega) [List.getElem?_cons_zero, List.getElem?_cons_succ, shl8, or8, or0, wrap_in])]
  rw [loopO_inl (s' := (bytesV [a1, a2, a3], (((a1.toNat : Int) * 256 + (a2.toNat : Int)) * 256 + (a3.toNat : Int)), (3 : Int))) (by simp (disch := omega) [List.getElem?_cons_zero, List.getElem?_cons_succ, shl8, or8, or0, wrap_in])]
  refine loopO_inr ?_
  rw [if_neg (show ¬ ((3 : Int) < 3) by decide)]
  rw [loopO_inl (s' := ((), bytesV [a1, a2, a3], (((a1.toNat : Int) * 256 + (a2.toNat : Int)) * 256 + (a3.toNat : Int)), (1 : Int), bSt 5 true (some (o.getD [] ++ bytesV [letOf (a1.toNat / 4)])))) (by
    have e : (((((a1.toNat : Int) * 256 + (a2.toNat : Int)) * 256 + (a3.toNat : Int)) / 262144) % 64 : Int).toNat = a1.toNat / 4 := by omega
    simp (disch := omega) [wrap_in, shr0, shr6, shr12, shr18, and63]
    refine ⟨by omega, ?_⟩
    rw [e, lets_at (by omega), Option.bind_some, wb_eq _ _ _ (by first | omega | (simp; omega))]
    simp [byteV, List.append_assoc])]
  rw [loopO_inl (s' := ((), bytesV [a1, a2, a3], (((a1.toNat : Int) * 256 + (a2.toNat : Int)) * 256 + (a3.toNat : Int)), (2 : Int), bSt 5 true (some (o.getD [] ++ bytesV [letOf (a1.toNat / 4), letOf (a1.toNat % 4 * 16 + a2.toNat / 16)])))) (by
    have e : (((((a1.toNat : Int) * 256 + (a2.toNat : Int)) * 256 + (a3.toNat : Int)) / 4096) % 64 : Int).toNat = a1.toNat % 4 * 16 + a2.toNat / 16 := by omega
    simp (disch := omega) [wrap_in, shr0, shr6, shr12, shr18, and63]
    refine ⟨by omega, ?_⟩
    rw [e, lets_at (by omega), Option.bind_some, wb_eq _ _ _ (by first | omega | (simp; omega))]
    simp [byteV, List.append_assoc])]
  rw [loopO_inl (s' := ((), bytesV [a1, a2, a3], (((a1.toNat : Int) * 256 + (a2.toNat : Int)) * 256 + (a3.toNat : Int)), (3 : Int), bSt 5 true (some (o.getD [] ++ bytesV [letOf (a1.toNat / 4), letOf (a1.toNat % 4 * 16 + a2.toNat / 16), letOf (a2.toNat % 16 * 4 + a3.toNat / 64)])))) (by
    have e : (((((a1.toNat : Int) * 256 + (a2.toNat : Int)) * 256 + (a3.toNat : Int)) / 64) % 64 : Int).toNat = a2.toNat % 16 * 4 + a3.toNat / 64 := by omega
    simp (disch := omega) [wrap_in, shr0, shr6, shr12, shr18, and63]
    refine ⟨by omega, ?_⟩
    rw [e, lets_at (by omega), Option.bind_some, wb_eq _ _ _ (by first | omega | (simp; omega))]
    simp [byteV, List.append_assoc])]
  rw [loopO_inl (s' := ((), bytesV [a1, a2, a3], (((a1.toNat : Int) * 256 + (a2.toNat : Int)) * 256 + (a3.toNat : Int)), (4 : Int), bSt 5 true (some (o.getD [] ++ bytesV [letOf (a1.toNat / 4), letOf (a1.toNat % 4 * 16 + a2.toNat / 16), letOf (a2.toNat % 16 * 4 + a3.toNat / 64), letOf (a3.toNat % 64)])))) (by
    have e : (((((a1.toNat : Int) * 256 + (a2.toNat : Int)) * 256 + (a3.toNat : Int))) % 64 : Int).toNat = a3.toNat % 64 := by omega
    simp (disch := omega) [wrap_in, shr0, shr6, shr12, shr18, and63]
    refine ⟨by omega, ?_⟩
    rw [e, lets_at (by omega), Option.bind_some, wb_eq _ _ _ (by first | omega | (simp; omega))]
    simp [byteV, List.append_assoc])]
  rw [loopO_inr (r := ((), bSt 5 true (some (o.getD [] ++ bytesV (enc [a1, a2, a3]))), ())) (by simp [bSt_stab', enc])]
  rfl

end Go.Proofs.Ytkblkhfahemogaa.A

namespace Go.Proofs.Ytkblkhfahemogaa.A
open Go Go.Proofs
set_option linter.unusedVariables false
set_option linter.unusedSimpArgs false
set_option maxRecDepth 10000

theorem enc_length (l : List UInt8) : (enc l).length = (l.length + 2) / 3 * 4 := by
  fun_induction enc l <;> simp <;> omega

/-- A builder that holds these bytes. -/
def stB (acc : List UInt8) : List T := match acc with
  | [] => bSt 5 false none
  | _ => bSt 5 true (some (bytesV acc))

theorem stB_len (acc : List UInt8) : (stB acc).length = 2 := by cases acc <;> rfl
theorem stB_str (acc : List UInt8) (h : acc.length ≤ 2147483648) : ∃ l', l'.length = 2 ∧ F_strings_Builder_String (stB acc) = some (acc, l') := by
  cases acc with
  | nil => exact str_nil false
  | cons a r => exact str_eq true a r (by simpa using h)

theorem grpB (acc l : List UInt8) (h0 : 0 < l.length) (h3 : l.length ≤ 3) (h : acc.length + 4 ≤ 2147483648) : F_radix_group (stB acc, bytesV l) = some ((), stB (acc ++ enc l), ()) := by
  match l, h0, h3 with
  | [a], _, _ =>
    cases acc with
    | nil => exact grp1 false none a (by simp)
    | cons x r => rw [show stB (x :: r ++ enc [a]) = bSt 5 true (some ((some (bytesV (x :: r))).getD [] ++ bytesV (enc [a]))) by simp [stB, bytesV_append]]; exact grp1 true _ a (by simpa using h)
  | [a, b], _, _ =>
    cases acc with
    | nil => exact grp2 false none a b (by simp)
    | cons x r => rw [show stB (x :: r ++ enc [a, b]) = bSt 5 true (some ((some (bytesV (x :: r))).getD [] ++ bytesV (enc [a, b]))) by simp [stB, bytesV_append]]; exact grp2 true _ a b (by simpa using h)
  | [a, b, c], _, _ =>
    cases acc with
    | nil => exact grp3 false none a b c (by simp)
    | cons x r => rw [show stB (x :: r ++ enc [a, b, c]) = bSt 5 true (some ((some (bytesV (x :: r))).getD [] ++ bytesV (enc [a, b, c]))) by simp [stB, bytesV_append]]; exact grp3 true _ a b c (by simpa using h)
  | _ :: _ :: _ :: _ :: _, _, h => simp at h

theorem enc_take (l : List UInt8) (h : 3 ≤ l.length) : enc (l.take 3) ++ enc (l.drop 3) = enc l := by
  match l, h with
  | a :: b :: c :: r, _ => simp [enc]
  | [], h => simp at h
  | [_], h => simp at h
  | [_, _], h => simp at h

theorem radix_enc (l : List UInt8) (h : l.length ≤ 1000000) : F_radix_Encode (bytesV l) = some (enc l) := by
  unfold F_radix_Encode
  simp only [decide_eq_true_eq]
  refine loopO_run (ι := List UInt8 × List UInt8) (fun i => (bytesV i.1, stB i.2)) (fun i => i.2 ++ enc i.1) (fun i => i.2.length + (enc i.1).length ≤ 2147483600) (fun i => i.1.length) ?_ (l, []) (by rw [enc_length]; simp; omega)
  rintro ⟨l, acc⟩ ha
  dsimp only at ha ⊢
  rw [enc_length] at ha
  by_cases h0 : l.length = 0
  · right
    have : l = [] := List.eq_nil_of_length_eq_zero h0
    obtain ⟨l', hl', hs⟩ := stB_str acc (by omega)
    simp only [bytesV_length]
    rw [if_neg (by omega), hs, Option.bind_some]
    subst this
    simp only [stB_len, hl', if_true, Option.bind_some, enc, List.append_nil]
  · left
    have hmin : List.foldl (fun a b : Int => if b < a then b else a) (3 : Int) [(l.length : Int)] = ((min 3 l.length : Nat) : Int) := by
      simp only [List.foldl]; split <;> omega
    have hg := grpB acc (l.take (min 3 l.length)) (by simp; omega) (by simp; omega) (by omega)
    have he : enc (l.take (min 3 l.length)) ++ enc (l.drop (min 3 l.length)) = enc l := by
      by_cases h3 : 3 ≤ l.length
      · rw [Nat.min_eq_left h3]; exact enc_take l h3
      · rw [Nat.min_eq_right (by omega), List.take_length, List.drop_length]; simp [enc]
    refine ⟨(l.drop (min 3 l.length), acc ++ enc (l.take (min 3 l.length))), ?_, ?_, ?_, ?_⟩
    · simp only [bytesV_length, hmin]
      rw [if_pos (by omega), if_pos (by omega), if_pos (by omega)]
      simp only [Int.toNat_natCast, Nat.sub_zero, List.drop_zero, bytesV_take, bytesV_drop, hg, Option.bind_some, stB_len, if_true]
      have : (l.drop (min 3 l.length)).length = l.length - min 3 l.length := by simp
      rw [← this, List.take_length, if_pos (by omega), if_pos (by omega)]
    · have := congrArg List.length he
      simp only [List.length_append] at this ⊢
      rw [enc_length l] at this
      omega
    · simp; omega
    · dsimp only
      rw [List.append_assoc, he]
end Go.Proofs.Ytkblkhfahemogaa.A

namespace Go.Proofs.Ytkblkhfahemogaa.A
open Go Go.Proofs
set_option linter.unusedVariables false
set_option linter.unusedSimpArgs false
set_option maxRecDepth 10000

def bitAt (l : List UInt8) (i : Nat) : Nat := (l.getD (i / 8) 0).toNat / 2 ^ (7 - i % 8) % 2

theorem shl1 {k : Nat} (h : k ≤ 7) : wordShl .i64 1 (k : Int) = ((2 ^ k : Nat) : Int) := by
  have h1 : 1 * 2 ^ k ≤ 2 ^ 7 := by rw [Nat.one_mul]; exact Nat.pow_le_pow_right (by decide) h
  have := wordShl_nat (a := 1) (k := k) (by omega) (by omega)
  rw [Nat.one_mul] at this; exact this

theorem ref_bit (l : List UInt8) (i : Nat) (h : i < 1000000000) : F_affiantref02_bit (bytesV l, (i : Int)) = some (bitAt l i : Int) := by
  unfold F_affiantref02_bit
  simp only [decide_eq_true_eq]
  have e1 : Int.tdiv (i : Int) 8 = ((i / 8 : Nat) : Int) := rfl
  have e2 : Int.tmod (i : Int) 8 = ((i % 8 : Nat) : Int) := rfl
  have e3 : IntKind.i64.wrap ((7 : Int) - ((i % 8 : Nat) : Int)) = ((7 - i % 8 : Nat) : Int) := by rw [wrap_in (by omega) (by omega)]; omega
  have e4 : IntKind.u64.wrap (((7 - i % 8 : Nat) : Int)) = ((7 - i % 8 : Nat) : Int) := IntWalk.u64_in _ (by omega)
  rw [e1, wrap_nat (by omega), e2, e3, e4, shl1 (by omega), bytesV_length, Int.toNat_natCast]
  have hp : 0 < 2 ^ (7 - i % 8) := Nat.two_pow_pos _
  by_cases hi : i / 8 < l.length
  · rw [if_neg (by omega), if_pos (by omega), bytesV_get, List.getElem?_eq_getElem hi]
    simp only [Option.map_some, Option.bind_some, byteV_cells, List.getElem?_cons_zero, byteV_int]
    have hb := u8_lt l[i / 8]
    rw [wrap_nat (by omega), if_neg (by omega), if_neg (by omega)]
    have e5 : Int.tdiv ((l[i / 8].toNat : Nat) : Int) ((2 ^ (7 - i % 8) : Nat) : Int) = ((l[i / 8].toNat / 2 ^ (7 - i % 8) : Nat) : Int) := rfl
    have h6 : l[i / 8].toNat / 2 ^ (7 - i % 8) ≤ l[i / 8].toNat := Nat.div_le_self _ _
    rw [e5, wrap_nat (by omega)]
    have : bitAt l i = l[i / 8].toNat / 2 ^ (7 - i % 8) % 2 := by
      unfold bitAt; rw [List.getD_eq_getElem?_getD, List.getElem?_eq_getElem hi]; rfl
    rw [this]; rfl
  · rw [if_pos (by omega)]
    have : bitAt l i = 0 := by
      unfold bitAt; rw [List.getD_eq_getElem?_getD, List.getElem?_eq_none (by omega)]; simp
    rw [this]; rfl

/-- Six bits. -/
def six (l : List UInt8) (i : Nat) : Nat := ((((bitAt l i * 2 + bitAt l (i + 1)) * 2 + bitAt l (i + 2)) * 2 + bitAt l (i + 3)) * 2 + bitAt l (i + 4)) * 2 + bitAt l (i + 5)

theorem bitAt_lt (l : List UInt8) (i : Nat) : bitAt l i < 2 := Nat.mod_lt _ (by decide)
theorem six_lt (l : List UInt8) (i : Nat) : six l i < 64 := by
  unfold six
  have h0 := bitAt_lt l i; have h1 := bitAt_lt l (i + 1); have h2 := bitAt_lt l (i + 2); have h3 := bitAt_lt l (i + 3); have h4 := bitAt_lt l (i + 4); have h5 := bitAt_lt l (i + 5)
  omega

theorem lets_cut {n : Nat} (h : n < 64) : List.take (n + 1 - n) (List.drop n lets) = [letOf n] := by
  have : n < lets.length := h
  rw [show n + 1 - n = 1 by omega, List.drop_eq_getElem_cons this]
  have h2 := lets_get h
  rw [List.getElem?_eq_getElem this] at h2
  simp at h2
  simp [h2]

theorem bitAt_pre (p r : List UInt8) (m : Nat) : bitAt (p ++ r) (8 * p.length + m) = bitAt r m := by
  unfold bitAt
  rw [show (8 * p.length + m) / 8 = p.length + m / 8 by omega, show (8 * p.length + m) % 8 = m % 8 by omega]
  rw [List.getD_eq_getElem?_getD, List.getD_eq_getElem?_getD, List.getElem?_append_right (by omega)]
  rw [show p.length + m / 8 - p.length = m / 8 by omega]
theorem six_pre (p r : List UInt8) (m : Nat) : six (p ++ r) (8 * p.length + m) = six r m := by
  unfold six
  rw [bitAt_pre, show 8 * p.length + m + 1 = 8 * p.length + (m + 1) by omega, show 8 * p.length + m + 2 = 8 * p.length + (m + 2) by omega, show 8 * p.length + m + 3 = 8 * p.length + (m + 3) by omega,
    show 8 * p.length + m + 4 = 8 * p.length + (m + 4) by omega, show 8 * p.length + m + 5 = 8 * p.length + (m + 5) by omega]
  simp only [bitAt_pre]

theorem six0 (a : UInt8) (r : List UInt8) : six (a :: r) 0 = a.toNat / 4 := by
  have := u8_lt a
  simp [six, bitAt]; omega
theorem six6 (a b : UInt8) (r : List UInt8) : six (a :: b :: r) 6 = a.toNat % 4 * 16 + b.toNat / 16 := by
  have := u8_lt a; have := u8_lt b
  simp [six, bitAt]; omega
theorem six6' (a : UInt8) : six [a] 6 = a.toNat % 4 * 16 := by
  have := u8_lt a
  simp [six, bitAt]; omega
theorem six12 (a b c : UInt8) (r : List UInt8) : six (a :: b :: c :: r) 12 = b.toNat % 16 * 4 + c.toNat / 64 := by
  have := u8_lt b; have := u8_lt c
  simp [six, bitAt]; omega
theorem six12' (a b : UInt8) : six [a, b] 12 = b.toNat % 16 * 4 := by
  have := u8_lt b
  simp [six, bitAt]; omega
theorem six18 (a b c : UInt8) (r : List UInt8) : six (a :: b :: c :: r) 18 = c.toNat % 64 := by
  have := u8_lt c
  simp [six, bitAt]; omega
end Go.Proofs.Ytkblkhfahemogaa.A

namespace Go.Proofs.Ytkblkhfahemogaa.A
open Go Go.Proofs
set_option linter.unusedVariables false
set_option linter.unusedSimpArgs false
set_option maxRecDepth 10000

/-- The letters of the bits from i on. -/
def outL (l : List UInt8) (i : Nat) : List UInt8 := if i < 8 * l.length then letOf (six l i) :: outL l (i + 6) else []
termination_by 8 * l.length - i

theorem outL_length (l : List UInt8) (i : Nat) : (outL l i).length ≤ 8 * l.length - i := by
  fun_induction outL l i <;> simp <;> omega

def padL (s : List UInt8) : List UInt8 := if s.length % 4 = 0 then s else if s.length % 4 = 1 then s ++ [61, 61, 61] else if s.length % 4 = 2 then s ++ [61, 61] else s ++ [61]

theorem padL_one (s : List UInt8) (h : s.length % 4 ≠ 0) : padL (s ++ [61]) = padL s := by
  unfold padL
  have h1 : (s ++ [(61 : UInt8)]).length = s.length + 1 := by simp
  rw [h1]
  have h2 : s.length % 4 = 1 ∨ s.length % 4 = 2 ∨ s.length % 4 = 3 := by omega
  rcases h2 with h2 | h2 | h2
  · rw [show (s.length + 1) % 4 = 2 by omega, h2]; simp
  · rw [show (s.length + 1) % 4 = 3 by omega, h2]; simp
  · rw [show (s.length + 1) % 4 = 0 by omega, h2]; simp

def nb (l : List UInt8) (i : Nat) : Nat → Nat
  | 0 => 0
  | k + 1 => nb l i k * 2 + bitAt l (i + k)
theorem nb_lt (l : List UInt8) (i : Nat) : ∀ k, nb l i k < 2 ^ k
  | 0 => by simp [nb]
  | k + 1 => by
    have h1 := nb_lt l i k
    have h2 := bitAt_lt l (i + k)
    simp only [nb, Nat.pow_succ]; omega
theorem nb_six (l : List UInt8) (i : Nat) : nb l i 6 = six l i := by simp [nb, six]
theorem nb_small (l : List UInt8) (i k : Nat) (h : k ≤ 6) : nb l i k < 64 := Nat.lt_of_lt_of_le (nb_lt l i k) (Nat.pow_le_pow_right (by decide) h)

theorem ref_enc0 (l : List UInt8) (h : l.length ≤ 1000000) : F_affiantref02_Encode (bytesV l) = some (padL (outL l 0)) := by
  unfold F_affiantref02_Encode
  simp only [decide_eq_true_eq, bne_iff_ne]
  refine loopO_run (ι := List UInt8 × Nat) (fun i => (bytesV l, i.1, (i.2 : Int))) (fun i => padL (i.1 ++ outL l i.2)) (fun i => i.1.length + (outL l i.2).length ≤ 10000000 ∧ i.2 ≤ 10000000) (fun i => 8 * l.length - i.2) ?_ ([], 0) (by have := outL_length l 0; simp; omega)
  rintro ⟨s, i⟩ ⟨ha, hi⟩
  dsimp only at ha hi ⊢
  have e0 : IntKind.i64.wrap ((l.length : Int) * 8) = ((8 * l.length : Nat) : Int) := by rw [wrap_in (by omega) (by omega)]; omega
  simp only [bytesV_length, e0]
  by_cases h0 : i < 8 * l.length
  · left
    refine ⟨(s ++ [letOf (six l i)], i + 6), ?_, ?_, ?_, ?_⟩
    · rw [if_pos (by omega)]
      refine loopO_run (ι := Nat) (fun k => (bytesV l, (i : Int), ((nb l i k : Nat) : Int), (k : Int))) (fun _ => Sum.inl (bytesV l, s ++ [letOf (six l i)], ((i + 6 : Nat) : Int))) (fun k => k ≤ 6) (fun k => 6 - k) ?_ 0 (by decide)
      intro k hk
      dsimp only
      have hn := nb_small l i k hk
      have hb := bitAt_lt l (i + k)
      by_cases hk6 : k < 6
      · left
        refine ⟨k + 1, ?_, by omega, by omega, rfl⟩
        rw [if_pos (by omega), show (i : Int) + (k : Int) = ((i + k : Nat) : Int) by omega, wrap_nat (by omega), ref_bit l (i + k) (by omega), Option.bind_some, wrap_in (n := ((nb l i k : Nat) : Int) * 2) (by omega) (by omega), wrap_in (by omega) (by omega), wrap_in (by omega) (by omega)]
        simp [nb]
      · right
        have : k = 6 := by omega
        subst this
        rw [if_neg (by omega), nb_six] at *
        have hs := six_lt l i
        rw [if_pos (by omega), wrap_in (n := ((six l i : Nat) : Int) + 1) (by omega) (by omega), if_pos (by omega)]
        rw [show (((six l i : Nat) : Int) + 1).toNat = six l i + 1 by omega, Int.toNat_natCast]
        have hc := lets_cut hs
        unfold lets at hc
        rw [hc, if_pos (by simp; omega), if_pos (by simp; omega), wrap_in (by omega) (by omega)]
        simp
    · rw [outL, if_pos h0] at ha
      simp at ha ⊢; omega
    · dsimp only; omega
    · dsimp only
      conv => rhs; rw [outL, if_pos h0]
      simp
  · right
    have ho : outL l i = [] := by rw [outL, if_neg h0]
    rw [ho] at ha ⊢
    rw [if_neg (by omega), List.append_nil]
    have key : loopO (σ := List UInt8) (R := List UInt8) (fun v10 => if Int.tmod (↑(List.length v10) : Int) (4 : Int) ≠ (0 : Int) then (if List.length v10 + List.length [(61 : UInt8)] ≤ (2147483648 : Nat) then some (.inl (v10 ++ [(61 : UInt8)])) else none) else some (.inr (v10))) s = some (padL s) := by
      refine loopO_run (ι := List UInt8) (fun v => v) padL (fun v => v.length + (4 - v.length % 4) % 4 ≤ 10000010) (fun v => (4 - v.length % 4) % 4) ?_ s (by simp at ha; omega)
      intro v hv
      have e : Int.tmod (↑(List.length v) : Int) (4 : Int) = ((v.length % 4 : Nat) : Int) := rfl
      rw [e]
      by_cases h4 : v.length % 4 = 0
      · right
        rw [if_neg (by omega)]
        unfold padL; rw [if_pos h4]
      · left
        refine ⟨v ++ [61], ?_, ?_, ?_, padL_one v h4⟩
        · rw [if_pos (by omega), if_pos (by simp; omega)]
        · simp; omega
        · simp; omega
    rw [key]; rfl
end Go.Proofs.Ytkblkhfahemogaa.A

namespace Go.Proofs.Ytkblkhfahemogaa.A
open Go Go.Proofs
set_option linter.unusedVariables false
set_option linter.unusedSimpArgs false
set_option maxRecDepth 10000

theorem outL_pos {l : List UInt8} {i : Nat} (h : i < 8 * l.length) : outL l i = letOf (six l i) :: outL l (i + 6) := by
  conv => lhs; rw [outL, if_pos h]
theorem outL_neg {l : List UInt8} {i : Nat} (h : ¬ i < 8 * l.length) : outL l i = [] := by
  rw [outL, if_neg h]

theorem padL_app (s t : List UInt8) (h : s.length % 4 = 0) : padL (s ++ t) = s ++ padL t := by
  unfold padL
  rw [List.length_append, show (s.length + t.length) % 4 = t.length % 4 by omega]
  split
  · rfl
  · split
    · simp
    · split <;> simp

theorem pad_enc : ∀ (n : Nat) (r p : List UInt8), r.length < n → padL (outL (p ++ r) (8 * p.length)) = enc r := by
  intro n
  induction n with
  | zero => intro r p h; omega
  | succ n ih =>
    intro r p hr
    have e : ∀ m, six (p ++ r) (8 * p.length + m) = six r m := six_pre p r
    have hl : (p ++ r).length = p.length + r.length := by simp
    match r, hr, e, hl with
    | [], _, _, hl =>
      rw [outL_neg (by rw [hl]; simp)]; rfl
    | [a], _, e, hl =>
      simp only [List.length_singleton] at hl
      rw [outL_pos (by omega), outL_pos (by omega), outL_neg (by omega), show 8 * p.length + 6 = 8 * p.length + (6 : Nat) from rfl, e 6]
      have e0 := e 0
      rw [Nat.add_zero] at e0
      rw [e0, six0, six6']
      rfl
    | [a, b], _, e, hl =>
      simp only [List.length_cons, List.length_nil] at hl
      rw [outL_pos (by omega), outL_pos (by omega), outL_pos (by omega), outL_neg (by omega), show 8 * p.length + 6 + 6 = 8 * p.length + 12 by omega, e 6, e 12]
      have e0 := e 0
      rw [Nat.add_zero] at e0
      rw [e0, six0, six6, six12']
      rfl
    | a :: b :: c :: r, hr, e, hl =>
      simp only [List.length_cons] at hl
      rw [outL_pos (by omega), outL_pos (by omega), outL_pos (by omega), outL_pos (by omega), show 8 * p.length + 6 + 6 = 8 * p.length + 12 by omega, show 8 * p.length + 12 + 6 = 8 * p.length + 18 by omega, e 6, e 12, e 18]
      have e0 := e 0
      rw [Nat.add_zero] at e0
      rw [e0, six0, six6, six12, six18]
      have := ih r (p ++ [a, b, c]) (by simp at hr; omega)
      simp only [List.append_assoc, List.cons_append, List.nil_append, List.length_append, List.length_cons, List.length_nil] at this
      have h2 : 8 * p.length + 18 + 6 = 8 * (p.length + (0 + 1 + 1 + 1)) := by omega
      rw [h2]
      have h3 := padL_app [letOf (a.toNat / 4), letOf (a.toNat % 4 * 16 + b.toNat / 16), letOf (b.toNat % 16 * 4 + c.toNat / 64), letOf (c.toNat % 64)] (outL (p ++ a :: b :: c :: r) (8 * (p.length + (0 + 1 + 1 + 1)))) (by simp)
      simp only [List.cons_append, List.nil_append] at h3
      rw [h3, this]
      rfl

theorem ref_enc (l : List UInt8) (h : l.length ≤ 1000000) : F_affiantref02_Encode (bytesV l) = some (enc l) := by
  rw [ref_enc0 l h]
  have := pad_enc _ l [] (Nat.lt_succ_self _)
  simpa using this
end Go.Proofs.Ytkblkhfahemogaa.A

namespace Go.Proofs.Ytkblkhfahemogaa.A
open Go Go.Proofs
set_option linter.unusedVariables false
set_option linter.unusedSimpArgs false
set_option maxRecDepth 10000

def valI (c : UInt8) : Int :=
  if 65 ≤ c.toNat ∧ c.toNat ≤ 90 then (c.toNat : Int) - 65 else if 97 ≤ c.toNat ∧ c.toNat ≤ 122 then (c.toNat : Int) - 71 else if 48 ≤ c.toNat ∧ c.toNat ≤ 57 then (c.toNat : Int) + 4
  else if c.toNat = 43 then 62 else if c.toNat = 47 then 63 else -1

theorem valI_let : ∀ n, n < 64 → valI (letOf n) = (n : Int) := by decide +kernel
theorem valI_all : ∀ n : Fin 256, valI (UInt8.ofNat n.1) = -1 ∨ (0 ≤ valI (UInt8.ofNat n.1) ∧ valI (UInt8.ofNat n.1) < 64 ∧ letOf (valI (UInt8.ofNat n.1)).toNat = UInt8.ofNat n.1) := by decide +kernel
theorem valI_or (c : UInt8) : valI c = -1 ∨ ∃ n : Nat, n < 64 ∧ valI c = (n : Int) ∧ letOf n = c := by
  have := valI_all ⟨c.toNat, u8_lt c⟩
  simp only [UInt8.ofNat_toNat] at this
  rcases this with h | ⟨h1, h2, h3⟩
  · exact .inl h
  · exact .inr ⟨(valI c).toNat, by omega, by omega, h3⟩
theorem letOf_inj {n m : Nat} (hn : n < 64) (hm : m < 64) (h : letOf n = letOf m) : n = m := by
  have h1 := valI_let n hn
  have h2 := valI_let m hm
  rw [h, h2] at h1
  omega
theorem letOf_fill : ∀ n, n < 64 → letOf n ≠ 61 := by decide +kernel

theorem radix_val (c : UInt8) : F_radix_Value (c.toNat : Int) = some (valI c) := by
  have hc := u8_lt c
  have hv : valI c = if 65 ≤ c.toNat ∧ c.toNat ≤ 90 then (c.toNat : Int) - 65 else if 97 ≤ c.toNat ∧ c.toNat ≤ 122 then (c.toNat : Int) - 71 else if 48 ≤ c.toNat ∧ c.toNat ≤ 57 then (c.toNat : Int) + 4
    else if c.toNat = 43 then 62 else if c.toNat = 47 then 63 else -1 := rfl
  generalize valI c = r at hv
  unfold F_radix_Value
  simp only [decide_eq_true_eq, beq_iff_eq]
  by_cases h1 : 65 ≤ c.toNat ∧ c.toNat ≤ 90
  · rw [if_pos h1] at hv
    rw [if_pos (by omega), Option.bind_some, if_pos (by simp; omega), hv, IntWalk.u8_in _ (by omega), wrap_in (by omega) (by omega)]
  · rw [if_neg h1] at hv
    have e1 : (if (c.toNat : Int) ≥ 65 then some (decide ((c.toNat : Int) ≤ 90)) else some false) = some false := by
      split
      · simp; omega
      · rfl
    rw [e1, Option.bind_some, if_neg (by decide)]
    by_cases h2 : 97 ≤ c.toNat ∧ c.toNat ≤ 122
    · rw [if_pos h2] at hv
      rw [if_pos (by omega), Option.bind_some, if_pos (by simp; omega), hv, IntWalk.u8_in _ (by omega), wrap_in (n := (c.toNat : Int) - 97) (by omega) (by omega), wrap_in (by omega) (by omega)]
      rw [show (c.toNat : Int) - 97 + 26 = (c.toNat : Int) - 71 by omega]
    · rw [if_neg h2] at hv
      have e2 : (if (c.toNat : Int) ≥ 97 then some (decide ((c.toNat : Int) ≤ 122)) else some false) = some false := by
        split
        · simp; omega
        · rfl
      rw [e2, Option.bind_some, if_neg (by decide)]
      by_cases h3 : 48 ≤ c.toNat ∧ c.toNat ≤ 57
      · rw [if_pos h3] at hv
        rw [if_pos (by omega), Option.bind_some, if_pos (by simp; omega), hv, IntWalk.u8_in _ (by omega), wrap_in (n := (c.toNat : Int) - 48) (by omega) (by omega), wrap_in (by omega) (by omega)]
        rw [show (c.toNat : Int) - 48 + 52 = (c.toNat : Int) + 4 by omega]
      · rw [if_neg h3] at hv
        have e3 : (if (c.toNat : Int) ≥ 48 then some (decide ((c.toNat : Int) ≤ 57)) else some false) = some false := by
          split
          · simp; omega
          · rfl
        rw [e3, Option.bind_some, if_neg (by decide)]
        by_cases h4 : c.toNat = 43
        · rw [if_pos h4] at hv
          rw [if_pos (by omega), hv]
        · rw [if_neg h4] at hv
          rw [if_neg (by omega)]
          by_cases h5 : c.toNat = 47
          · rw [if_pos h5] at hv
            rw [if_pos (by omega), hv]
          · rw [if_neg h5] at hv
            rw [if_neg (by omega), hv]

theorem ref_val (c : UInt8) : F_affiantref02_Value (c.toNat : Int) = some (valI c) := by
  have hc := u8_lt c
  unfold F_affiantref02_Value
  simp only [decide_eq_true_eq, beq_iff_eq]
  refine loopO_run (ι := Nat) (fun i => ((c.toNat : Int), (0 : Int), (i : Int))) (fun _ => valI c) (fun i => i ≤ 64 ∧ ∀ j, j < i → letOf j ≠ c) (fun i => 64 - i) ?_ 0 ⟨by decide, fun j h => by omega⟩
  rintro i ⟨hi, hj⟩
  dsimp only
  by_cases h : i < 64
  · rw [if_pos (by omega), if_pos (by omega), Int.toNat_natCast, lets_at h, Option.bind_some]
    by_cases he : letOf i = c
    · right
      rw [if_pos (by rw [he])]
      have := valI_let i h
      rw [he] at this
      rw [this]
    · left
      refine ⟨i + 1, ?_, ⟨by omega, fun j h => ?_⟩, by omega, rfl⟩
      · rw [if_neg (fun hh => he (UInt8.toNat_inj.1 (by omega))), wrap_in (by omega) (by omega)]; rfl
      · by_cases hji : j = i
        · rw [hji]; exact he
        · exact hj j (by omega)
  · right
    rw [if_neg (by omega)]
    rcases valI_or c with h1 | ⟨n, h1, h2, h3⟩
    · rw [h1]
    · exact absurd h3 (hj n (by omega))
end Go.Proofs.Ytkblkhfahemogaa.A

namespace Go.Proofs.Ytkblkhfahemogaa.A
open Go Go.Proofs
set_option linter.unusedVariables false
set_option linter.unusedSimpArgs false
set_option maxRecDepth 10000

def vN (s : List UInt8) (i : Nat) : Nat := (valI (s.getD i 0)).toNat
/-- The number that the first letters are. -/
def pn (s : List UInt8) : Nat → Nat
  | 0 => 0
  | 1 => vN s 0 * 262144
  | 2 => (vN s 0 * 64 + vN s 1) * 4096
  | 3 => ((vN s 0 * 64 + vN s 1) * 64 + vN s 2) * 64
  | _ => ((vN s 0 * 64 + vN s 1) * 64 + vN s 2) * 64 + vN s 3

def okL (s : List UInt8) (n : Nat) : Prop := ∀ j, j < n → valI (s.getD j 0) ≠ -1

theorem vN_lt (s : List UInt8) (i : Nat) : vN s i < 64 := by
  unfold vN
  rcases valI_or (s.getD i 0) with h | ⟨n, h1, h2, h3⟩
  · rw [h]; decide
  · rw [h2]; simpa using h1
theorem vN_eq {s : List UInt8} {i : Nat} (h : valI (s.getD i 0) ≠ -1) : valI (s.getD i 0) = (vN s i : Int) := by
  unfold vN
  rcases valI_or (s.getD i 0) with h1 | ⟨n, h1, h2, h3⟩
  · exact absurd h1 h
  · rw [h2]; simp

theorem pn_step (s : List UInt8) (i : Nat) (h : i < 4) : wordOr .i64 (pn s i : Int) (wordShl .i64 (vN s i : Int) (IntKind.i64.wrap ((18 : Int) - IntKind.i64.wrap ((6 : Int) * (i : Int))))) = ((pn s (i + 1) : Nat) : Int) := by
  have h0 := vN_lt s 0; have h1 := vN_lt s 1; have h2 := vN_lt s 2; have h3 := vN_lt s 3
  have hi : i = 0 ∨ i = 1 ∨ i = 2 ∨ i = 3 := by omega
  rcases hi with rfl | rfl | rfl | rfl
  · rw [show IntKind.i64.wrap ((18 : Int) - IntKind.i64.wrap ((6 : Int) * ((0 : Nat) : Int))) = 18 by decide, wordShl_int 262144 (by decide) (by decide) (by decide) (by omega) (by omega)]
    simp only [pn]
    rw [show ((0 : Nat) : Int) = 0 from rfl, or0 (by omega) (by omega)]; omega
  · rw [show IntKind.i64.wrap ((18 : Int) - IntKind.i64.wrap ((6 : Int) * ((1 : Nat) : Int))) = 12 by decide, wordShl_int 4096 (by decide) (by decide) (by decide) (by omega) (by omega)]
    simp only [pn]
    rw [show ((vN s 0 * 262144 : Nat) : Int) = ((vN s 0 : Nat) : Int) * 262144 by omega, wordOr_add 18 262144 (by decide) (by omega) (by omega) (by omega) (by omega)]; omega
  · rw [show IntKind.i64.wrap ((18 : Int) - IntKind.i64.wrap ((6 : Int) * ((2 : Nat) : Int))) = 6 by decide, wordShl_int 64 (by decide) (by decide) (by decide) (by omega) (by omega)]
    simp only [pn]
    rw [show (((vN s 0 * 64 + vN s 1) * 4096 : Nat) : Int) = ((vN s 0 * 64 + vN s 1 : Nat) : Int) * 4096 by omega, wordOr_add 12 4096 (by decide) (by omega) (by omega) (by omega) (by omega)]; omega
  · rw [show IntKind.i64.wrap ((18 : Int) - IntKind.i64.wrap ((6 : Int) * ((3 : Nat) : Int))) = 0 by decide, wordShl_int 1 (by decide) (by decide) (by decide) (by omega) (by omega)]
    simp only [pn]
    rw [show ((((vN s 0 * 64 + vN s 1) * 64 + vN s 2) * 64 : Nat) : Int) = (((vN s 0 * 64 + vN s 1) * 64 + vN s 2 : Nat) : Int) * 64 by omega, wordOr_add 6 64 (by decide) (by omega) (by omega) (by omega) (by omega)]; omega

theorem pn_lt (s : List UInt8) (i : Nat) : pn s i < 16777216 := by
  have h0 := vN_lt s 0; have h1 := vN_lt s 1; have h2 := vN_lt s 2; have h3 := vN_lt s 3
  match i with
  | 0 => simp [pn]
  | 1 => simp only [pn]; omega
  | 2 => simp only [pn]; omega
  | 3 => simp only [pn]; omega
  | n + 4 => simp only [pn]; omega

def by3 (n : Nat) : List UInt8 := [UInt8.ofNat (n / 65536), UInt8.ofNat (n / 256), UInt8.ofNat n]

theorem u8_of (n : Nat) : V.int .u8 (IntKind.u8.wrap (n : Int)) = byteV (UInt8.ofNat n) := by
  rw [wrap_u8]; simp [byteV]

open Classical in
theorem ungroup_eq (s : List UInt8) (m : Nat) (h2 : 2 ≤ m) (h4 : m ≤ 4) (hs : 4 ≤ s.length) :
    F_radix_ungroup (s, (m : Int)) = some (if okL s m then (bytesV ((by3 (pn s m)).take (m - 1)), decide (pn s m % 2 ^ (8 * (4 - m)) = 0)) else ([], false)) := by
  unfold F_radix_ungroup
  simp only [decide_eq_true_eq, beq_iff_eq]
  refine loopO_run (ι := Nat) (fun i => (s, [], false, ((pn s i : Nat) : Int), (m : Int), (i : Int))) (fun _ => if okL s m then (bytesV ((by3 (pn s m)).take (m - 1)), decide (pn s m % 2 ^ (8 * (4 - m)) = 0)) else ([], false)) (fun i => i ≤ m ∧ okL s i) (fun i => m - i) ?_ 0 ⟨by omega, fun j h => by omega⟩
  rintro i ⟨hi, hok⟩
  dsimp only
  by_cases h : i < m
  · rw [if_pos (by omega), if_pos (by omega), Int.toNat_natCast, List.getElem?_eq_getElem (by omega), Option.bind_some, radix_val, Option.bind_some]
    have hg : s.getD i 0 = s[i] := by rw [List.getD_eq_getElem?_getD, List.getElem?_eq_getElem (by omega)]; rfl
    by_cases hv : valI s[i] = -1
    · right
      rw [if_pos hv, if_neg (fun hh => hh i h (by rw [hg]; exact hv))]
    · left
      rw [← hg] at hv
      refine ⟨i + 1, ?_, ⟨by omega, fun j hj => ?_⟩, by omega, rfl⟩
      · rw [← hg, if_neg hv, if_neg (by rw [wrap_in (n := 6 * (i : Int)) (by omega) (by omega), wrap_in (by omega) (by omega)]; omega), vN_eq hv, pn_step s i (by omega), wrap_in (by omega) (by omega)]
        rfl
      · by_cases hji : j = i
        · rw [hji]; exact hv
        · exact hok j (by omega)
  · right
    have : i = m := by omega
    subst this
    rw [if_neg (by omega), if_pos hok]
    have hp := pn_lt s i
    have hset : List.set (List.set (List.set (List.replicate (3 : Nat) (V.int Go.IntKind.u8 (0 : Int))) (0 : Nat) (V.int Go.IntKind.u8 (Go.IntKind.wrap Go.IntKind.u8 (wordShr Go.IntKind.i64 ((pn s i : Nat) : Int) (16 : Int))))) (1 : Nat) (V.int Go.IntKind.u8 (Go.IntKind.wrap Go.IntKind.u8 (wordShr Go.IntKind.i64 ((pn s i : Nat) : Int) (8 : Int))))) (2 : Nat) (V.int Go.IntKind.u8 (Go.IntKind.wrap Go.IntKind.u8 ((pn s i : Nat) : Int))) = bytesV (by3 (pn s i)) := by
      rw [show (16 : Int) = ((16 : Nat) : Int) from rfl, show (8 : Int) = ((8 : Nat) : Int) from rfl, wordShr_nat (by decide), wordShr_nat (by decide), u8_of, u8_of, u8_of]
      rfl
    rw [hset]
    have hl : (bytesV (by3 (pn s i))).length = 3 := rfl
    simp only [bytesV_length]
    have hc : i = 2 ∨ i = 3 ∨ i = 4 := by omega
    rcases hc with rfl | rfl | rfl
    · rw [show IntKind.i64.wrap (8 * IntKind.i64.wrap (4 - ((2 : Nat) : Int))) = 16 by decide, show IntKind.i64.wrap (((2 : Nat) : Int) - 1) = 1 by decide, show IntKind.i64.wrap (wordShl .i64 1 16 - 1) = 65536 - 1 by decide,
        wordAnd_low 16 65536 (by decide) (by omega) (by omega) (by decide), if_neg (by decide), if_pos (by decide), if_pos (by simp [by3])]
      simp [bytesV_take]
      rw [Bool.eq_iff_iff, beq_iff_eq, decide_eq_true_eq]; omega
    · rw [show IntKind.i64.wrap (8 * IntKind.i64.wrap (4 - ((3 : Nat) : Int))) = 8 by decide, show IntKind.i64.wrap (((3 : Nat) : Int) - 1) = 2 by decide, show IntKind.i64.wrap (wordShl .i64 1 8 - 1) = 256 - 1 by decide,
        wordAnd_low 8 256 (by decide) (by omega) (by omega) (by decide), if_neg (by decide), if_pos (by decide), if_pos (by simp [by3])]
      simp [bytesV_take]
      rw [Bool.eq_iff_iff, beq_iff_eq, decide_eq_true_eq]; omega
    · rw [show IntKind.i64.wrap (8 * IntKind.i64.wrap (4 - ((4 : Nat) : Int))) = 0 by decide, show IntKind.i64.wrap (((4 : Nat) : Int) - 1) = 3 by decide, show IntKind.i64.wrap (wordShl .i64 1 0 - 1) = 1 - 1 by decide,
        wordAnd_low 0 1 (by decide) (by omega) (by omega) (by decide), if_neg (by decide), if_pos (by decide), if_pos (by simp [by3])]
      simp [bytesV_take]
      omega
end Go.Proofs.Ytkblkhfahemogaa.A

namespace Go.Proofs.Ytkblkhfahemogaa.A
open Go Go.Proofs
set_option linter.unusedVariables false
set_option linter.unusedSimpArgs false
set_option maxRecDepth 10000

theorem trim1 (s : List UInt8) (c : UInt8) (h : s.length ≤ 1000000) : F_strings_TrimSuffix (s ++ [c], [61]) = some (if c = 61 then s else s ++ [c]) := by
  have hw : IntKind.i64.wrap (((s ++ [c]).length : Int) - (([(61 : UInt8)].length : Nat) : Int)) = (s.length : Int) := by
    rw [wrap_in (by simp <;> omega) (by simp <;> omega)]; simp
  have hs : F_internal_stringslite_HasSuffix (s ++ [c], [61]) = some (decide (c = 61)) := by
    unfold F_internal_stringslite_HasSuffix
    simp only [decide_eq_true_eq, hw]
    rw [if_pos (by simp; omega), if_pos (by omega), Int.toNat_natCast, if_pos (by simp)]
    simp only [Option.bind_some]
    rw [show (s ++ [c]).length - s.length = 1 by simp, List.drop_left]
    simp
    rw [Bool.eq_iff_iff, beq_iff_eq, decide_eq_true_eq]
  unfold F_strings_TrimSuffix F_internal_stringslite_TrimSuffix
  simp only [hs, Option.bind_some, hw, decide_eq_true_eq]
  by_cases hc : c = 61
  · rw [if_pos hc, if_pos hc, if_pos (by omega), Int.toNat_natCast, if_pos (by simp)]
    simp
  · rw [if_neg hc, if_neg hc]; rfl

/-! ### Encoding and its parts -/

theorem enc_inj : ∀ {a b : List UInt8}, enc a = enc b → a = b
  | [], [], _ => rfl
  | [], [_], h => by simp [enc] at h
  | [], [_, _], h => by simp [enc] at h
  | [], _ :: _ :: _ :: _, h => by simp [enc] at h
  | [_], [], h => by simp [enc] at h
  | [_, _], [], h => by simp [enc] at h
  | _ :: _ :: _ :: _, [], h => by simp [enc] at h
  | [a], [a'], h => by
    have ha := u8_lt a; have ha' := u8_lt a'
    simp only [enc, List.cons.injEq, and_true] at h
    have h1 := letOf_inj (by omega) (by omega) h.1
    have h2 := letOf_inj (by omega) (by omega) h.2
    rw [show a = a' from UInt8.toNat_inj.1 (by omega)]
  | [a], [a', b'], h => by
    have hb' := u8_lt b'
    simp only [enc, List.cons.injEq, and_true] at h
    exact absurd h.2.2.symm (letOf_fill _ (by omega))
  | [a], a' :: b' :: c' :: r, h => by
    have hb' := u8_lt b'; have hc' := u8_lt c'
    simp only [enc, List.cons.injEq, and_true] at h
    exact absurd h.2.2.1.symm (letOf_fill _ (by omega))
  | [a, b], [a'], h => by
    have hb' := u8_lt b
    simp only [enc, List.cons.injEq, and_true] at h
    exact absurd h.2.2 (letOf_fill _ (by omega))
  | [a, b], [a', b'], h => by
    have ha := u8_lt a; have ha' := u8_lt a'; have hb := u8_lt b; have hb' := u8_lt b'
    simp only [enc, List.cons.injEq, and_true] at h
    have h1 := letOf_inj (by omega) (by omega) h.1
    have h2 := letOf_inj (by omega) (by omega) h.2.1
    have h3 := letOf_inj (by omega) (by omega) h.2.2
    rw [show a = a' from UInt8.toNat_inj.1 (by omega), show b = b' from UInt8.toNat_inj.1 (by omega)]
  | [a, b], a' :: b' :: c' :: r, h => by
    have hc' := u8_lt c'
    simp only [enc, List.cons.injEq, and_true] at h
    exact absurd h.2.2.2.1.symm (letOf_fill _ (by omega))
  | a :: b :: c :: r, [a'], h => by
    have hb' := u8_lt b; have hc' := u8_lt c
    simp only [enc, List.cons.injEq, and_true] at h
    exact absurd h.2.2.1 (letOf_fill _ (by omega))
  | a :: b :: c :: r, [a', b'], h => by
    have hc' := u8_lt c
    simp only [enc, List.cons.injEq, and_true] at h
    exact absurd h.2.2.2.1 (letOf_fill _ (by omega))
  | a :: b :: c :: r, a' :: b' :: c' :: r', h => by
    have ha := u8_lt a; have ha' := u8_lt a'; have hb := u8_lt b; have hb' := u8_lt b'; have hc := u8_lt c; have hc' := u8_lt c'
    simp only [enc, List.cons.injEq] at h
    have h1 := letOf_inj (by omega) (by omega) h.1
    have h2 := letOf_inj (by omega) (by omega) h.2.1
    have h3 := letOf_inj (by omega) (by omega) h.2.2.1
    have h4 := letOf_inj (by omega) (by omega) h.2.2.2.1
    rw [show a = a' from UInt8.toNat_inj.1 (by omega), show b = b' from UInt8.toNat_inj.1 (by omega), show c = c' from UInt8.toNat_inj.1 (by omega), enc_inj h.2.2.2.2]

theorem enc_app3 {b : List UInt8} (h : b.length = 3) (r : List UInt8) : enc (b ++ r) = enc b ++ enc r := by
  match b, h with
  | [x, y, z], _ => simp [enc]

theorem ofNat_toNat {n : Nat} (h : n < 256) : (UInt8.ofNat n).toNat = n := by simp [Nat.mod_eq_of_lt h]
theorem ofNat_toNat' (n : Nat) : (UInt8.ofNat n).toNat = n % 256 := by simp

theorem E4 {a b c d : Nat} (ha : a < 64) (hb : b < 64) (hc : c < 64) (hd : d < 64) : enc (by3 (((a * 64 + b) * 64 + c) * 64 + d)) = [letOf a, letOf b, letOf c, letOf d] := by
  simp only [by3, enc, ofNat_toNat']
  rw [show (((a * 64 + b) * 64 + c) * 64 + d) / 65536 % 256 / 4 = a by omega, show (((a * 64 + b) * 64 + c) * 64 + d) / 65536 % 256 % 4 * 16 + (((a * 64 + b) * 64 + c) * 64 + d) / 256 % 256 / 16 = b by omega,
    show (((a * 64 + b) * 64 + c) * 64 + d) / 256 % 256 % 16 * 4 + (((a * 64 + b) * 64 + c) * 64 + d) % 256 / 64 = c by omega, show (((a * 64 + b) * 64 + c) * 64 + d) % 256 % 64 = d by omega]
theorem E3 {a b c : Nat} (ha : a < 64) (hb : b < 64) (hc : c < 64) (h : ((a * 64 + b) * 64 + c) * 64 % 256 = 0) : enc ((by3 (((a * 64 + b) * 64 + c) * 64)).take 2) = [letOf a, letOf b, letOf c, 61] := by
  simp only [by3, List.take_succ_cons, List.take_zero, enc, ofNat_toNat']
  rw [show (((a * 64 + b) * 64 + c) * 64) / 65536 % 256 / 4 = a by omega, show (((a * 64 + b) * 64 + c) * 64) / 65536 % 256 % 4 * 16 + (((a * 64 + b) * 64 + c) * 64) / 256 % 256 / 16 = b by omega,
    show (((a * 64 + b) * 64 + c) * 64) / 256 % 256 % 16 * 4 = c by omega]
theorem E2 {a b : Nat} (ha : a < 64) (hb : b < 64) (h : (a * 64 + b) * 4096 % 65536 = 0) : enc ((by3 ((a * 64 + b) * 4096)).take 1) = [letOf a, letOf b, 61, 61] := by
  simp only [by3, List.take_succ_cons, List.take_zero, enc, ofNat_toNat']
  rw [show ((a * 64 + b) * 4096) / 65536 % 256 / 4 = a by omega, show ((a * 64 + b) * 4096) / 65536 % 256 % 4 * 16 = b by omega]

theorem vN_let {s : List UInt8} {i : Nat} (h : valI (s.getD i 0) ≠ -1) : letOf (vN s i) = s.getD i 0 := by
  unfold vN
  rcases valI_or (s.getD i 0) with h1 | ⟨n, h1, h2, h3⟩
  · exact absurd h1 h
  · rw [h2]; exact h3

theorem val_let (n : Nat) (h : n < 64) : valI (letOf n) ≠ -1 := by rw [valI_let n h]; omega

/-- How many letters of a last group count. -/
def manyOf (c2 c3 : UInt8) : Nat := if c3 = 61 then (if c2 = 61 then 2 else 3) else 4

/-- Is a group's reading right? -/
def goodG (s : List UInt8) (m : Nat) : Prop := okL s m ∧ pn s m % 2 ^ (8 * (4 - m)) = 0

theorem good4 {c0 c1 c2 c3 : UInt8} {r : List UInt8} (h : goodG (c0 :: c1 :: c2 :: c3 :: r) 4) : [c0, c1, c2, c3] = enc ((by3 (pn (c0 :: c1 :: c2 :: c3 :: r) 4)).take 3) := by
  obtain ⟨h, _⟩ := h
  have e0 := vN_let (h 0 (by decide)); have e1 := vN_let (h 1 (by decide)); have e2 := vN_let (h 2 (by decide)); have e3 := vN_let (h 3 (by decide))
  have := E4 (vN_lt (c0 :: c1 :: c2 :: c3 :: r) 0) (vN_lt (c0 :: c1 :: c2 :: c3 :: r) 1) (vN_lt (c0 :: c1 :: c2 :: c3 :: r) 2) (vN_lt (c0 :: c1 :: c2 :: c3 :: r) 3)
  rw [e0, e1, e2, e3] at this
  exact this.symm
theorem good3 {c0 c1 c2 : UInt8} (h : goodG [c0, c1, c2, 61] 3) : [c0, c1, c2, 61] = enc ((by3 (pn [c0, c1, c2, 61] 3)).take 2) := by
  obtain ⟨h, h2⟩ := h
  have e0 := vN_let (h 0 (by decide)); have e1 := vN_let (h 1 (by decide)); have e2 := vN_let (h 2 (by decide))
  have := E3 (vN_lt [c0, c1, c2, 61] 0) (vN_lt [c0, c1, c2, 61] 1) (vN_lt [c0, c1, c2, 61] 2) h2
  rw [e0, e1, e2] at this
  exact this.symm
theorem good2 {c0 c1 : UInt8} (h : goodG [c0, c1, 61, 61] 2) : [c0, c1, 61, 61] = enc ((by3 (pn [c0, c1, 61, 61] 2)).take 1) := by
  obtain ⟨h, h2⟩ := h
  have e0 := vN_let (h 0 (by decide)); have e1 := vN_let (h 1 (by decide))
  have := E2 (vN_lt [c0, c1, 61, 61] 0) (vN_lt [c0, c1, 61, 61] 1) h2
  rw [e0, e1] at this
  exact this.symm

theorem vN_of {s : List UInt8} {i n : Nat} (h : s.getD i 0 = letOf n) (hn : n < 64) : vN s i = n := by unfold vN; rw [h, valI_let n hn]; rfl

theorem isGood4 (a b c : UInt8) (r : List UInt8) : goodG (enc [a, b, c] ++ r) 4 := by
  have := u8_lt a; have := u8_lt b; have := u8_lt c
  refine ⟨fun j hj => ?_, by simp [Nat.mod_one]⟩
  have hc : j = 0 ∨ j = 1 ∨ j = 2 ∨ j = 3 := by omega
  rcases hc with rfl | rfl | rfl | rfl <;> exact val_let _ (by omega)
theorem isGood3 (a b : UInt8) : goodG (enc [a, b]) 3 := by
  have := u8_lt a; have := u8_lt b
  refine ⟨fun j hj => ?_, ?_⟩
  · have hc : j = 0 ∨ j = 1 ∨ j = 2 := by omega
    rcases hc with rfl | rfl | rfl <;> exact val_let _ (by omega)
  · have h2 : vN (enc [a, b]) 2 = b.toNat % 16 * 4 := vN_of rfl (by omega)
    simp only [pn, h2]; omega
theorem isGood2 (a : UInt8) : goodG (enc [a]) 2 := by
  have := u8_lt a
  refine ⟨fun j hj => ?_, ?_⟩
  · have hc : j = 0 ∨ j = 1 := by omega
    rcases hc with rfl | rfl <;> exact val_let _ (by omega)
  · have h2 : vN (enc [a]) 1 = a.toNat % 4 * 16 := vN_of rfl (by omega)
    simp only [pn, h2]; omega
end Go.Proofs.Ytkblkhfahemogaa.A

namespace Go.Proofs.Ytkblkhfahemogaa.A
open Go Go.Proofs
set_option linter.unusedVariables false
set_option linter.unusedSimpArgs false
set_option maxRecDepth 10000

open Classical in
/-- What letters are read as, behind bytes that were read. -/
noncomputable def decA (acc s : List UInt8) : List V × Int := if h : ∃ r, s = enc r then (bytesV (acc ++ Classical.choose h), 0) else ([], 3)

theorem decA_enc (acc r : List UInt8) : decA acc (enc r) = (bytesV (acc ++ r), 0) := by
  unfold decA
  have h : ∃ r', enc r = enc r' := ⟨r, rfl⟩
  rw [dif_pos h]
  have := enc_inj (Classical.choose_spec h)
  rw [← this]
theorem decA_not {acc s : List UInt8} (h : ¬ ∃ r, s = enc r) : decA acc s = ([], 3) := by
  unfold decA; rw [dif_neg h]

theorem trim2 (c0 c1 c2 c3 : UInt8) : ∃ t, F_strings_TrimSuffix ([c0, c1, c2, c3], [61]) = some t ∧ ∃ u, F_strings_TrimSuffix (t, [61]) = some u ∧ u.length = manyOf c2 c3 := by
  have h1 := trim1 [c0, c1, c2] c3 (by simp)
  simp only [List.cons_append, List.nil_append] at h1
  by_cases h3 : c3 = 61
  · rw [if_pos h3] at h1
    have h2 := trim1 [c0, c1] c2 (by simp)
    simp only [List.cons_append, List.nil_append] at h2
    exact ⟨_, h1, _, h2, by unfold manyOf; rw [if_pos h3]; split <;> simp⟩
  · rw [if_neg h3] at h1
    have h2 := trim1 [c0, c1, c2] c3 (by simp)
    simp only [List.cons_append, List.nil_append] at h2
    rw [if_neg h3] at h2
    exact ⟨_, h1, _, h2, by unfold manyOf; rw [if_neg h3]; simp⟩

theorem manyOf_in (a b : UInt8) : 2 ≤ manyOf a b ∧ manyOf a b ≤ 4 := by unfold manyOf; split <;> (try split) <;> omega

/-- A last group. -/
theorem last_good {c0 c1 c2 c3 : UInt8} (h : goodG [c0, c1, c2, c3] (manyOf c2 c3)) : [c0, c1, c2, c3] = enc ((by3 (pn [c0, c1, c2, c3] (manyOf c2 c3))).take (manyOf c2 c3 - 1)) := by
  unfold manyOf at h ⊢
  by_cases h3 : c3 = 61
  · subst h3
    by_cases h2 : c2 = 61
    · subst h2; exact good2 h
    · rw [if_pos rfl, if_neg h2] at h ⊢; exact good3 h
  · rw [if_neg h3] at h ⊢; exact good4 h
theorem last_enc {c0 c1 c2 c3 : UInt8} {r : List UInt8} (h : [c0, c1, c2, c3] = enc r) : goodG [c0, c1, c2, c3] (manyOf c2 c3) := by
  match r, h with
  | [], h => simp [enc] at h
  | [a], h =>
    simp only [enc, List.cons.injEq, and_true] at h
    obtain ⟨rfl, rfl, rfl, rfl⟩ := h
    exact isGood2 a
  | [a, b], h =>
    have := u8_lt b
    have hg := isGood3 a b
    simp only [enc, List.cons.injEq, and_true] at h
    obtain ⟨rfl, rfl, h2, rfl⟩ := h
    have : manyOf c2 61 = 3 := by unfold manyOf; rw [if_pos rfl, if_neg (by rw [h2]; exact letOf_fill _ (by omega))]
    rw [this, h2]; exact hg
  | a :: b :: c :: r, h =>
    have := u8_lt c
    have hg := isGood4 a b c []
    have hl := congrArg List.length h
    rw [enc_length] at hl
    simp at hl
    have : r = [] := List.eq_nil_of_length_eq_zero (by omega)
    subst this
    simp only [enc, List.cons.injEq, and_true] at h
    obtain ⟨rfl, rfl, rfl, h3⟩ := h
    have h4 : manyOf (letOf (b.toNat % 16 * 4 + c.toNat / 64)) c3 = 4 := by unfold manyOf; rw [if_neg (by rw [h3]; exact letOf_fill _ (by omega))]
    rw [h4, h3]; exact hg
/-- A group with others behind. -/
theorem more_enc {c0 c1 c2 c3 : UInt8} {s r : List UInt8} (hs : s ≠ []) (h : c0 :: c1 :: c2 :: c3 :: s = enc r) : goodG (c0 :: c1 :: c2 :: c3 :: s) 4 ∧ ∃ b r', b.length = 3 ∧ r = b ++ r' ∧ [c0, c1, c2, c3] = enc b ∧ s = enc r' := by
  have hl := congrArg List.length h
  rw [enc_length] at hl
  have : 0 < s.length := List.length_pos_iff.2 hs
  match r, h, hl with
  | [], h, _ => simp [enc] at h
  | [a], h, hl => simp only [List.length_cons, List.length_nil] at hl; omega
  | [a, b], h, hl => simp only [List.length_cons, List.length_nil] at hl; omega
  | a :: b :: c :: r, h, _ =>
    rw [h]
    refine ⟨isGood4 a b c (enc r), [a, b, c], r, rfl, rfl, ?_, ?_⟩
    · simp only [enc, List.cons.injEq] at h ⊢; exact ⟨h.1, h.2.1, h.2.2.1, h.2.2.2.1, trivial⟩
    · simp only [enc, List.cons.injEq] at h; exact h.2.2.2.2

theorem by3_len (n : Nat) : (by3 n).length = 3 := rfl

theorem radix_dec0 (s acc : List UInt8) (hs : s.length % 4 = 0) (h : s.length + acc.length ≤ 1000000) : F_radix_Decode s = some (decA [] s) := by
  unfold F_radix_Decode
  simp only [decide_eq_true_eq, beq_iff_eq, bne_iff_ne, Bool.not_eq_true', beq_eq_false_iff_ne]
  rw [if_neg (by rw [show Int.tmod (s.length : Int) 4 = ((s.length % 4 : Nat) : Int) from rfl]; omega)]
  refine loopO_run (ι := List UInt8 × List UInt8) (fun i => (i.2, [], (0 : Int), bytesV i.1)) (fun i => decA i.1 i.2) (fun i => i.2.length % 4 = 0 ∧ i.1.length + i.2.length ≤ 1000000) (fun i => i.2.length) ?_ ([], s) ⟨hs, by simp; omega⟩
  rintro ⟨acc, s⟩ ⟨hs, hl⟩
  dsimp only at hs hl ⊢
  have htk : List.take (bytesV acc).length (List.drop 0 (bytesV acc)) = bytesV acc := by rw [List.drop_zero, List.take_length]
  rw [htk]
  match s, hs, hl with
  | [], _, _ =>
    right
    rw [if_neg (by simp)]
    have := decA_enc acc []
    rw [show enc [] = [] from rfl] at this
    rw [this, List.append_nil]
  | [_], hs, _ => simp at hs
  | [_, _], hs, _ => simp at hs
  | [_, _, _], hs, _ => simp at hs
  | c0 :: c1 :: c2 :: c3 :: s, hs, hl =>
    rw [if_pos (by simp)]
    -- how many letters count
    have hm : ∃ m, 2 ≤ m ∧ m ≤ 4 ∧ (s = [] → m = manyOf c2 c3) ∧ (s ≠ [] → m = 4) ∧ (if ((c0 :: c1 :: c2 :: c3 :: s).length : Int) = 4 then (F_strings_TrimSuffix (c0 :: c1 :: c2 :: c3 :: s, [61])).bind fun v5 : List UInt8 => (F_strings_TrimSuffix (v5, [61])).bind fun v6 : List UInt8 =>
        (some (.inl (c0 :: c1 :: c2 :: c3 :: s, (v6.length : Int))) : Option ((List UInt8 × Int) ⊕ ((List UInt8 × List V × Int × List V) ⊕ (List V × Int)))) else some (.inl (c0 :: c1 :: c2 :: c3 :: s, (4 : Int)))) = some (.inl (c0 :: c1 :: c2 :: c3 :: s, (m : Int))) := by
      by_cases h0 : s = []
      · subst h0
        obtain ⟨t, h1, u, h2, h3⟩ := trim2 c0 c1 c2 c3
        have := manyOf_in c2 c3
        refine ⟨manyOf c2 c3, this.1, this.2, fun _ => rfl, fun h => absurd rfl h, ?_⟩
        rw [if_pos (by simp), h1, Option.bind_some, h2, Option.bind_some, h3]
      · refine ⟨4, by decide, by decide, fun h => absurd h h0, fun _ => rfl, ?_⟩
        have : 0 < s.length := List.length_pos_iff.2 h0
        rw [if_neg (by simp; omega)]; rfl
    obtain ⟨m, m2, m4, hm0, hm1, he⟩ := hm
    rw [he]
    simp only [Option.bind_some]
    rw [ungroup_eq (c0 :: c1 :: c2 :: c3 :: s) m m2 m4 (by simp)]
    simp only [Option.bind_some]
    by_cases hg : goodG (c0 :: c1 :: c2 :: c3 :: s) m
    · left
      obtain ⟨g1, g2⟩ := hg
      refine ⟨(acc ++ (by3 (pn (c0 :: c1 :: c2 :: c3 :: s) m)).take (m - 1), s), ?_, ⟨by simp only [List.length_cons] at hs; show s.length % 4 = 0; omega, by simp [by3_len] at hl ⊢; omega⟩, by simp; omega, ?_⟩
      · rw [if_pos g1]
        simp only [g2, decide_true]
        rw [if_neg (by decide), if_pos (by simp [by3_len] at hl ⊢; omega), if_pos (by simp)]
        simp [bytesV_append]
      · dsimp only
        by_cases h0 : s = []
        · subst h0
          have hmm := hm0 rfl
          subst hmm
          have hh := last_good ⟨g1, g2⟩
          have e1 := decA_enc (acc ++ (by3 (pn [c0, c1, c2, c3] (manyOf c2 c3))).take (manyOf c2 c3 - 1)) []
          rw [show enc [] = [] from rfl, List.append_nil] at e1
          rw [e1]
          conv => rhs; rw [hh]
          rw [decA_enc]
        · have hmm := hm1 h0
          subst hmm
          have hh := good4 (r := s) ⟨g1, g2⟩
          by_cases hex : ∃ r, s = enc r
          · obtain ⟨r, hr⟩ := hex
            have : c0 :: c1 :: c2 :: c3 :: s = enc ((by3 (pn (c0 :: c1 :: c2 :: c3 :: s) 4)).take 3 ++ r) := by
              rw [enc_app3 (by simp [by3_len]), ← hh, ← hr]; rfl
            rw [show (4 - 1 : Nat) = 3 from rfl]
            generalize (by3 (pn (c0 :: c1 :: c2 :: c3 :: s) 4)).take 3 = b at this hh ⊢
            rw [this, decA_enc, hr, decA_enc, List.append_assoc]
          · rw [decA_not hex, decA_not]
            rintro ⟨r, hr⟩
            obtain ⟨_, b, r', _, _, _, h5⟩ := more_enc h0 hr
            exact hex ⟨r', h5⟩
    · right
      have hnot : ¬ ∃ r, c0 :: c1 :: c2 :: c3 :: s = enc r := by
        rintro ⟨r, hr⟩
        by_cases h0 : s = []
        · subst h0
          rw [hm0 rfl] at hg
          exact hg (last_enc hr)
        · rw [hm1 h0] at hg
          exact hg (more_enc h0 hr).1
      rw [decA_not hnot]
      by_cases g1 : okL (c0 :: c1 :: c2 :: c3 :: s) m
      · rw [if_pos g1]
        have g2 : ¬ pn (c0 :: c1 :: c2 :: c3 :: s) m % 2 ^ (8 * (4 - m)) = 0 := fun h => hg ⟨g1, h⟩
        simp only [g2, decide_false, if_true]
      · rw [if_neg g1]
        simp only [if_true]

theorem radix_dec (s : List UInt8) (h : s.length ≤ 900000) : F_radix_Decode s = some (decA [] s) := by
  by_cases hs : s.length % 4 = 0
  · exact radix_dec0 s [] hs (by simp; omega)
  · unfold F_radix_Decode
    simp only [bne_iff_ne]
    rw [if_pos (by rw [show Int.tmod (s.length : Int) 4 = ((s.length % 4 : Nat) : Int) from rfl]; omega), decA_not]
    rintro ⟨r, rfl⟩
    rw [enc_length] at hs; omega
end Go.Proofs.Ytkblkhfahemogaa.A

namespace Go.Proofs.Ytkblkhfahemogaa.A
open Go Go.Proofs
set_option linter.unusedVariables false
set_option linter.unusedSimpArgs false
set_option maxRecDepth 10000

/-- A letter's bits laid behind: the number held, how many bits, the bytes. -/
def stepL (x : Nat × Nat × List UInt8) (v : Nat) : Nat × Nat × List UInt8 :=
  if 8 ≤ x.2.1 + 6 then ((x.1 * 64 + v) % 2 ^ (x.2.1 - 2), x.2.1 - 2, x.2.2 ++ [UInt8.ofNat ((x.1 * 64 + v) / 2 ^ (x.2.1 - 2))]) else (x.1 * 64 + v, x.2.1 + 6, x.2.2)
def lv (c : UInt8) : Nat := (valI c).toNat
def runL (s : List UInt8) : Nat × Nat × List UInt8 := (s.map lv).foldl stepL (0, 0, [])

theorem lv_lt (c : UInt8) : lv c < 64 := by
  unfold lv
  rcases valI_or c with h | ⟨n, h1, h2, h3⟩
  · rw [h]; decide
  · rw [h2]; simpa using h1

structure InvL (n : Nat) (x : Nat × Nat × List UInt8) : Prop where
  m : x.2.1 = 0 ∧ x.1 = 0 ∨ x.2.1 = 2 ∧ x.1 < 4 ∨ x.2.1 = 4 ∧ x.1 < 16 ∨ x.2.1 = 6 ∧ x.1 < 64
  l : x.2.2.length ≤ n

theorem InvL.step {n v : Nat} {x : Nat × Nat × List UInt8} (h : InvL n x) (hv : v < 64) : InvL (n + 1) (stepL x v) := by
  obtain ⟨a, m, o⟩ := x
  obtain ⟨hm, hl⟩ := h
  dsimp only at hm hl
  rcases hm with ⟨rfl, rfl⟩ | ⟨rfl, h⟩ | ⟨rfl, h⟩ | ⟨rfl, h⟩
  · exact ⟨by simp [stepL, hv], by simp [stepL]; omega⟩
  · exact ⟨by simp [stepL]; omega, by simp [stepL]; omega⟩
  · exact ⟨by simp [stepL]; omega, by simp [stepL]; omega⟩
  · exact ⟨by simp [stepL]; omega, by simp [stepL]; omega⟩

theorem runL_snoc (s : List UInt8) (c : UInt8) : runL (s ++ [c]) = stepL (runL s) (lv c) := by simp [runL]
theorem runL_inv : ∀ (n : Nat) (s : List UInt8), s.length = n → InvL n (runL s)
  | 0, s, h => by
    have : s = [] := List.eq_nil_of_length_eq_zero h
    subst this; exact ⟨by simp [runL], by simp [runL]⟩
  | n + 1, s, h => by
    have hne : s ≠ [] := fun h0 => by rw [h0] at h; cases h
    have hs := (List.dropLast_concat_getLast hne).symm
    rw [hs, runL_snoc]
    exact (runL_inv n s.dropLast (by simp [h])).step (lv_lt _)

/-- Bytes, filled up. -/
def loose : List UInt8 → List UInt8
  | a :: b :: c :: r => a :: b :: c :: loose r
  | [a, b] => [a, b, 0]
  | [a] => [a, 0, 0]
  | [] => []

theorem lv_let {n : Nat} (h : n < 64) : lv (letOf n) = n := by unfold lv; rw [valI_let n h]; rfl
theorem lv_fill : lv 61 = 0 := by decide

theorem four (o : List UInt8) (a b c d : Nat) (ha : a < 64) (hb : b < 64) (hc : c < 64) (hd : d < 64) :
    stepL (stepL (stepL (stepL (0, 0, o) a) b) c) d = (0, 0, o ++ [UInt8.ofNat (a * 4 + b / 16), UInt8.ofNat (b % 16 * 16 + c / 4), UInt8.ofNat (c % 4 * 64 + d)]) := by
  have e1 : (a * 64 + b) / 16 = a * 4 + b / 16 := by omega
  have e2 : ((a * 64 + b) % 16 * 64 + c) / 4 = b % 16 * 16 + c / 4 := by omega
  have e3 : ((a * 64 + b) % 16 * 64 + c) % 4 * 64 + d = c % 4 * 64 + d := by omega
  simp [stepL, e1, e2, e3, Nat.mod_one, List.append_assoc]

theorem u8_eq {n : Nat} (b : UInt8) (h : n = b.toNat) : UInt8.ofNat n = b := by rw [h]; simp

theorem run_enc : ∀ (r o : List UInt8), ((enc r).map lv).foldl stepL (0, 0, o) = (0, 0, o ++ loose r)
  | [], o => by simp [enc, loose]
  | [a], o => by
    have := u8_lt a
    simp only [enc, List.map_cons, List.map_nil, List.foldl_cons, List.foldl_nil, lv_fill]
    rw [lv_let (by omega), lv_let (by omega), four _ _ _ _ _ (by omega) (by omega) (by decide) (by decide)]
    rw [u8_eq a (by omega), show a.toNat % 4 * 16 % 16 * 16 + 0 / 4 = 0 by omega]
    rfl
  | [a, b], o => by
    have := u8_lt a; have := u8_lt b
    simp only [enc, List.map_cons, List.map_nil, List.foldl_cons, List.foldl_nil, lv_fill]
    rw [lv_let (by omega), lv_let (by omega), lv_let (by omega), four _ _ _ _ _ (by omega) (by omega) (by omega) (by decide)]
    rw [u8_eq a (by omega), u8_eq b (by omega), show b.toNat % 16 * 4 % 4 * 64 + 0 = 0 by omega]
    rfl
  | a :: b :: c :: r, o => by
    have := u8_lt a; have := u8_lt b; have := u8_lt c
    simp only [enc, List.map_cons, List.foldl_cons]
    rw [lv_let (by omega), lv_let (by omega), lv_let (by omega), lv_let (by omega), four _ _ _ _ _ (by omega) (by omega) (by omega) (by omega)]
    rw [u8_eq a (by omega), u8_eq b (by omega), u8_eq c (by omega), run_enc r]
    simp [loose, List.append_assoc]

theorem loose_take : ∀ r : List UInt8, ∃ k, k < 3 ∧ k ≤ (loose r).length ∧ (loose r).take ((loose r).length - k) = r
  | [] => ⟨0, by simp [loose]⟩
  | [a] => ⟨2, by simp [loose]⟩
  | [a, b] => ⟨1, by simp [loose]⟩
  | a :: b :: c :: r => by
    obtain ⟨k, h1, h2, h3⟩ := loose_take r
    refine ⟨k, h1, by simp [loose]; omega, ?_⟩
    simp only [loose, List.length_cons]
    rw [show (loose r).length + 1 + 1 + 1 - k = ((loose r).length - k) + 1 + 1 + 1 by omega]
    simp [h3]

theorem enc_chars : ∀ (r : List UInt8) (c : UInt8), c ∈ enc r → valI c ≠ -1 ∨ c = 61
  | [], c, h => by simp [enc] at h
  | [a], c, h => by
    have := u8_lt a
    simp only [enc, List.mem_cons, List.not_mem_nil, or_false] at h
    rcases h with rfl | rfl | rfl | rfl
    · exact .inl (val_let _ (by omega))
    · exact .inl (val_let _ (by omega))
    · exact .inr rfl
    · exact .inr rfl
  | [a, b], c, h => by
    have := u8_lt a; have := u8_lt b
    simp only [enc, List.mem_cons, List.not_mem_nil, or_false] at h
    rcases h with rfl | rfl | rfl | rfl
    · exact .inl (val_let _ (by omega))
    · exact .inl (val_let _ (by omega))
    · exact .inl (val_let _ (by omega))
    · exact .inr rfl
  | x :: y :: z :: r, c, h => by
    have := u8_lt x; have := u8_lt y; have := u8_lt z
    simp only [enc, List.mem_cons] at h
    rcases h with rfl | rfl | rfl | rfl | h
    · exact .inl (val_let _ (by omega))
    · exact .inl (val_let _ (by omega))
    · exact .inl (val_let _ (by omega))
    · exact .inl (val_let _ (by omega))
    · exact enc_chars r c h

theorem shr_u {a k : Nat} (hk : k ≤ 7) : wordShr .i64 (a : Int) (IntKind.u64.wrap (k : Int)) = ((a / 2 ^ k : Nat) : Int) := by
  rw [IntWalk.u64_in _ (by omega)]; exact wordShr_nat (by omega)
theorem shl_u {k : Nat} (hk : k ≤ 7) : wordShl .i64 1 (IntKind.u64.wrap (k : Int)) = ((2 ^ k : Nat) : Int) := by
  rw [IntWalk.u64_in _ (by omega)]; exact shl1 hk

theorem u8_set (x : Int) : List.take (List.set (List.replicate 1 (V.int .u8 0)) 0 (V.int .u8 x)).length (List.drop 0 (List.set (List.replicate 1 (V.int .u8 0)) 0 (V.int .u8 x))) = [V.int .u8 x] := by simp

theorem bind_of {α β : Type} {x : Option α} {a : α} {g : α → Option β} {r : Option β} (h : x = some a) (hr : g a = r) : x.bind g = r := by rw [h]; exact hr

theorem ref_dec (s : List UInt8) (h : s.length ≤ 900000) : F_affiantref02_Decode s = some (decA [] s) := by
  unfold F_affiantref02_Decode
  simp only [decide_eq_true_eq, beq_iff_eq, bne_iff_ne]
  refine loopO_run (ι := Nat) (fun i => (s, [], (0 : Int), ((runL (s.take i)).1 : Int), ((runL (s.take i)).2.1 : Int), bytesV (runL (s.take i)).2.2, (i : Int))) (fun _ => decA [] s) (fun i => i ≤ s.length) (fun i => s.length - i) ?_ 0 (by omega)
  intro i hi
  dsimp only
  have hinv := runL_inv i (s.take i) (by simp; omega)
  by_cases h0 : i < s.length
  · rw [if_pos (by omega), if_pos (by omega), Int.toNat_natCast, List.getElem?_eq_getElem h0, Option.bind_some, ref_val, Option.bind_some]
    have hst : runL (s.take (i + 1)) = stepL (runL (s.take i)) (lv s[i]) := by rw [← List.take_append_getElem h0, runL_snoc]
    by_cases hbad : valI s[i] = -1 ∧ s[i] ≠ 61
    · right
      rw [if_pos (by rw [hbad.1]; decide), if_pos (by omega), Option.bind_some, if_pos (fun hh => hbad.2 (UInt8.toNat_inj.1 (by simpa using (show s[i].toNat = 61 by omega)))), decA_not]
      · rfl
      · rintro ⟨r, hr⟩
        rcases enc_chars r s[i] (by rw [← hr]; exact List.getElem_mem h0) with h1 | h1
        · exact h1 hbad.1
        · exact hbad.2 h1
    · left
      refine ⟨i + 1, ?_, by omega, by omega, rfl⟩
      have hsome : (if valI s[i] < 0 then if 0 ≤ (i : Int) then (some s[i]).bind fun v10 : UInt8 => if (v10.toNat : Int) ≠ 61 then some (Sum.inr (Sum.inr (nilV, (3 : Int)))) else some (Sum.inl (s, ([] : List V), (0 : Int), (i : Int), (0 : Int))) else none else
          (some (Sum.inl (s, [], 0, (i : Int), valI s[i])) : Option (((List UInt8) × ((List V) × (Int × (Int × Int)))) ⊕ (((List UInt8) × ((List V) × (Int × (Int × (Int × ((List V) × Int)))))) ⊕ ((List V) × Int))))) = some (Sum.inl (s, [], 0, (i : Int), (lv s[i] : Int))) := by
        unfold lv
        rcases valI_or s[i] with h1 | ⟨n, h1, h2, h3⟩
        · have h61 : s[i] = 61 := Classical.byContradiction fun hh => hbad ⟨h1, hh⟩
          rw [h1, if_pos (by decide), if_pos (by omega), Option.bind_some, if_neg (by rw [h61]; decide)]; rfl
        · rw [h2, if_neg (by omega)]; rfl
      rw [hsome, hst]
      simp only [Option.bind_some]
      have hlv := lv_lt s[i]
      generalize lv s[i] = v at hlv
      generalize runL (s.take i) = x at hinv
      obtain ⟨a, m, o⟩ := x
      obtain ⟨hm, hl⟩ := hinv
      dsimp only at hm hl ⊢
      have ha : a < 64 := by omega
      have e1 : IntKind.i64.wrap (IntKind.i64.wrap ((a : Int) * 64) + (v : Int)) = ((a * 64 + v : Nat) : Int) := by
        rw [wrap_in (n := (a : Int) * 64) (by omega) (by omega), wrap_in (by omega) (by omega)]; omega
      have e2 : IntKind.i64.wrap ((m : Int) + 6) = ((m + 6 : Nat) : Int) := by rw [wrap_in (by omega) (by omega)]; omega
      rw [e1, e2]
      simp only [u8_set]
      by_cases h8 : 8 ≤ m + 6
      · have e3 : IntKind.i64.wrap (((m + 6 : Nat) : Int) - 8) = ((m - 2 : Nat) : Int) := by rw [wrap_in (by omega) (by omega)]; omega
        have hp : 0 < 2 ^ (m - 2) := Nat.two_pow_pos _
        have e4 : IntKind.u64.wrap ((m - 2 : Nat) : Int) = ((m - 2 : Nat) : Int) := IntWalk.u64_in _ (by omega)
        have c1 : ((m + 6 : Nat) : Int) ≥ 8 := by omega
        have c2 : ¬ ((m - 2 : Nat) : Int) < 0 := by omega
        have c4 : ¬ ((2 ^ (m - 2) : Nat) : Int) = 0 := by omega
        rw [e3, shr_u (by omega), shl_u (by omega), e4, if_pos c1, if_neg c2, if_pos (c := _ ≤ 2147483648) (by simp; omega), if_neg c2, if_neg c4, Option.bind_some]
        have e5 : Int.tmod ((a * 64 + v : Nat) : Int) ((2 ^ (m - 2) : Nat) : Int) = (((a * 64 + v) % 2 ^ (m - 2) : Nat) : Int) := rfl
        rw [e5]
        simp only [stepL, if_pos h8, u8_of]
        rw [wrap_in (by omega) (by omega)]
        simp [bytesV_append]
        rw [← bytesV_length o, List.take_length]
      · rw [if_neg (by omega), Option.bind_some]
        simp only [stepL, if_neg h8]
        rw [wrap_in (by omega) (by omega)]
        rfl
  · right
    rw [if_neg (by omega)]
    have hi2 : s.take i = s := List.take_of_length_le (by omega)
    rw [hi2] at hinv ⊢
    have hex : ∀ r, s = enc r → ∃ k, k < 3 ∧ k ≤ (runL s).2.2.length ∧ s = enc ((runL s).2.2.take ((runL s).2.2.length - k)) := by
      rintro r rfl
      have := run_enc r []
      have h2 : runL (enc r) = (0, 0, loose r) := by unfold runL; rw [this]; rfl
      rw [h2]
      obtain ⟨k, h3, h4, h5⟩ := loose_take r
      exact ⟨k, h3, h4, by rw [h5]⟩
    have hol := hinv.l
    generalize (runL s).2.2 = o at hex hol
    refine bind_of (loopO_run (ι := Nat) (fun k => (s, [], 0, bytesV o, (k : Int))) (fun _ => decA [] s) (fun k => k ≤ 3 ∧ ∀ j, j < k → j ≤ o.length → s ≠ enc (o.take (o.length - j))) (fun k => 3 - k) ?_ 0 ⟨by decide, fun j h => by omega⟩) ?_
    · rintro k ⟨hk, hn⟩
      dsimp only
      simp only [bytesV_length]
      by_cases hk3 : k < 3
      · rw [if_pos (by omega)]
        by_cases hko : k ≤ o.length
        · have e1 : IntKind.i64.wrap ((o.length : Int) - (k : Int)) = ((o.length - k : Nat) : Int) := by rw [wrap_in (by omega) (by omega)]; omega
          have c0 : (o.length : Int) ≥ (k : Int) := by omega
          have c1 : (0 : Int) ≤ ((o.length - k : Nat) : Int) := by omega
          have c2 : 0 ≤ o.length - k ∧ o.length - k ≤ o.length := by omega
          have e2 : List.take (o.length - k - 0) (List.drop (0 + 0) (bytesV o)) = bytesV (o.take (o.length - k)) := by simp [bytesV_take]
          rw [e1, Int.toNat_natCast, if_pos c0, if_pos c1, if_pos c2, e2, ref_enc _ (by simp; omega)]
          simp only [Option.bind_some]
          by_cases he : enc (o.take (o.length - k)) = s
          · right
            rw [if_pos (beq_iff_eq.2 he), if_pos c1, if_pos c2, ← he, decA_enc, List.nil_append]
          · left
            refine ⟨k + 1, ?_, ⟨by omega, fun j hj hjo => ?_⟩, by omega, trivial⟩
            · rw [if_neg (fun hh => he (beq_iff_eq.1 hh)), wrap_in (by omega) (by omega)]; rfl
            · by_cases hjk : j = k
              · rw [hjk]; exact fun hh => he hh.symm
              · exact hn j (by omega) hjo
        · left
          have c0 : ¬ (o.length : Int) ≥ (k : Int) := by omega
          refine ⟨k + 1, ?_, ⟨by omega, fun j hj hjo => ?_⟩, by omega, trivial⟩
          · rw [if_neg c0, Option.bind_some, if_neg (by decide), wrap_in (by omega) (by omega)]; rfl
          · exact hn j (by omega) hjo
      · right
        rw [if_neg (by omega), decA_not]
        rintro ⟨r, hr⟩
        obtain ⟨j, h1, h2, h3⟩ := hex r hr
        exact hn j (by omega) h2 h3
    · rfl
end Go.Proofs.Ytkblkhfahemogaa.A

namespace Go.Proofs.Ytkblkhfahemogaa.A
open Go Go.Proofs
set_option linter.unusedVariables false
set_option linter.unusedSimpArgs false
set_option maxRecDepth 10000

theorem alive_eq : F_affiantlaw02_alive PUnit.unit = some true := by
  unfold F_affiantlaw02_alive
  have d1 : F_radix_Decode [65, 81, 73, 61] = some (bytesV [1, 2], 0) := by
    rw [radix_dec _ (by decide), show ([65, 81, 73, 61] : List UInt8) = enc [1, 2] from by decide, decA_enc]; rfl
  have d2 : F_radix_Decode [65, 81, 74, 61] = some ([], 3) := by
    rw [radix_dec _ (by decide), decA_not]
    rintro ⟨r, hr⟩
    exact absurd (last_enc hr).2 (by decide)
  have d3 : F_radix_Encode (bytesV [1, 2]) = some [65, 81, 73, 61] := by
    rw [radix_enc _ (by decide), show enc [1, 2] = [65, 81, 73, 61] from by decide]
  rw [d1, d2]
  simp only [Option.bind_some]
  have e : List.take (((List.replicate 2 (V.int IntKind.u8 0)).set 0 (V.int IntKind.u8 1)).set 1 (V.int IntKind.u8 2)).length (List.drop 0 (((List.replicate 2 (V.int IntKind.u8 0)).set 0 (V.int IntKind.u8 1)).set 1 (V.int IntKind.u8 2))) = bytesV [1, 2] := rfl
  rw [e, d3]
  simp only [Option.bind_some, unbytes_bytesV, beq_self_eq_true, if_true]

theorem law_RadixEncode (l : List UInt8) : F_affiantlaw02_RadixEncode (bytesV l) = some true := by
  unfold F_affiantlaw02_RadixEncode
  simp only [decide_eq_true_eq, alive_eq, Option.bind_some, bytesV_length]
  by_cases h : (l.length : Int) > 300
  · rw [if_pos h]
  · rw [if_neg h, if_pos (by simp; omega), if_pos trivial]
    have e : List.take (List.length (nilV ++ bytesV l)) (List.drop 0 (nilV ++ bytesV l)) = bytesV l := by rw [List.drop_zero, List.take_length]; rfl
    rw [e, radix_enc l (by omega), ref_enc l (by omega)]
    simp only [Option.bind_some, unbytes_bytesV, beq_self_eq_true, if_true]

theorem decA_unbytes (s : List UInt8) : ∃ l, unbytes (decA [] s).1 = some l := by
  by_cases h : ∃ r, s = enc r
  · obtain ⟨r, rfl⟩ := h
    rw [decA_enc]; exact ⟨_, unbytes_bytesV _⟩
  · rw [decA_not h]; exact ⟨[], rfl⟩

theorem law_RadixDecode (s : List UInt8) : F_affiantlaw02_RadixDecode s = some true := by
  unfold F_affiantlaw02_RadixDecode
  simp only [decide_eq_true_eq, alive_eq, Option.bind_some]
  by_cases h : (s.length : Int) > 300
  · rw [if_pos h]
  · rw [if_neg h, radix_dec s (by omega), ref_dec s (by omega)]
    obtain ⟨l, hl⟩ := decA_unbytes s
    simp only [Option.bind_some, hl, beq_self_eq_true, if_true]

theorem law_RadixBack (l : List UInt8) : F_affiantlaw02_RadixBack (bytesV l) = some true := by
  unfold F_affiantlaw02_RadixBack
  simp only [decide_eq_true_eq, alive_eq, Option.bind_some, bytesV_length]
  by_cases h : (l.length : Int) > 300
  · rw [if_pos h]
  · rw [if_neg h, radix_enc l (by omega)]
    simp only [Option.bind_some]
    rw [radix_dec (enc l) (by rw [enc_length]; omega), decA_enc]
    simp only [Option.bind_some, List.nil_append, unbytes_bytesV, beq_self_eq_true, if_true, enc_length]
    have e1 : IntKind.i64.wrap ((l.length : Int) + 2) = ((l.length + 2 : Nat) : Int) := by rw [wrap_in (by omega) (by omega)]; omega
    have e2 : Int.tdiv ((l.length + 2 : Nat) : Int) 3 = (((l.length + 2) / 3 : Nat) : Int) := rfl
    rw [e1, e2, wrap_in (n := (((l.length + 2) / 3 : Nat) : Int)) (by omega) (by omega), wrap_in (by omega) (by omega)]
    rw [show (((l.length + 2) / 3 * 4 : Nat) : Int) = (((l.length + 2) / 3 : Nat) : Int) * 4 by omega]
    simp

theorem law_RadixOnly (s : List UInt8) : F_affiantlaw02_RadixOnly s = some true := by
  unfold F_affiantlaw02_RadixOnly
  simp only [decide_eq_true_eq, alive_eq, Option.bind_some]
  by_cases h : (s.length : Int) > 300
  · rw [if_pos h]
  · rw [if_neg h, radix_dec s (by omega)]
    simp only [Option.bind_some]
    by_cases hex : ∃ r, s = enc r
    · obtain ⟨r, rfl⟩ := hex
      rw [enc_length] at h
      rw [decA_enc]
      simp only [List.nil_append]
      rw [if_neg (by decide), radix_enc r (by omega)]
      simp
    · rw [decA_not hex]
      simp

theorem radix_let (n : Int) : F_radix_Letter n = some (if 0 ≤ n ∧ n < 64 then ((letOf n.toNat).toNat : Int) else 0, if 0 ≤ n ∧ n < 64 then (0 : Int) else 1) := by
  unfold F_radix_Letter
  simp only [decide_eq_false_iff_not]
  by_cases h0 : n < 0
  · rw [if_neg (by omega), Option.bind_some, if_pos rfl, if_neg (by omega), if_neg (by omega)]
  · rw [if_pos h0, Option.bind_some]
    by_cases h1 : n ≥ 64
    · rw [if_pos (by simp; omega), if_neg (by omega), if_neg (by omega)]
    · rw [if_neg (by simp; omega), if_pos (by omega), lets_at (by omega), if_pos (by omega), if_pos (by omega)]
      rfl
theorem ref_let (n : Int) : F_affiantref02_Letter n = some (if 0 ≤ n ∧ n < 64 then ((letOf n.toNat).toNat : Int) else 0, if 0 ≤ n ∧ n < 64 then (0 : Int) else 1) := by
  unfold F_affiantref02_Letter
  simp only [decide_eq_false_iff_not]
  by_cases h0 : n < 0
  · rw [if_neg (by omega), Option.bind_some, if_pos rfl, if_neg (by omega), if_neg (by omega)]
  · rw [if_pos h0, Option.bind_some]
    by_cases h1 : n > 63
    · rw [if_pos (by simp; omega), if_neg (by omega), if_neg (by omega)]
    · rw [if_neg (by simp; omega), if_pos (by omega), lets_at (by omega), if_pos (by omega), if_pos (by omega)]
      rfl

theorem law_RadixLetter (n : Int) (c : UInt8) : F_affiantlaw02_RadixLetter (n, (c.toNat : Int)) = some true := by
  unfold F_affiantlaw02_RadixLetter
  simp only [radix_let, ref_let, Option.bind_some, radix_val, ref_val, alive_eq, bne_self_eq_false, if_true]
  rw [if_neg (by decide)]
  by_cases h : 0 ≤ n ∧ n < 64
  · rw [if_pos h, if_pos h, if_pos (by decide), radix_val, valI_let _ (by omega)]
    simp only [Option.bind_some]
    rw [if_neg (by simp; omega)]
  · rw [if_neg h, if_neg h, if_neg (by decide)]
    simp
end Go.Proofs.Ytkblkhfahemogaa.A
