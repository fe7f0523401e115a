/- What the printed functions answer, in plain terms. Conditions: none. -/
import Derived.Test.YtffofdfikmpanaaLE
import Derived.Test.YtffofdfikmpanaaG1
set_option linter.unusedVariables false
set_option linter.unusedSimpArgs false
set_option linter.constructorNameAsVariable false
set_option linter.unusedSectionVars false

namespace Go.Proofs.Ytffofdfikmpanaa.A
set_option linter.unusedVariables false
set_option linter.unusedSimpArgs false

/-- Numbers of one kind. -/
def numV (k : IntKind) (l : List Nat) : List V := l.map fun (n : Nat) => V.int k (n : Int)
@[simp] theorem numV_length (k : IntKind) (l : List Nat) : (numV k l).length = l.length := by simp [numV]
theorem numV_get (k : IntKind) (l : List Nat) (i : Nat) : (numV k l)[i]? = (l[i]?).map fun (n : Nat) => V.int k (n : Int) := by simp [numV]
theorem numV_append (k : IntKind) (l m : List Nat) : numV k (l ++ m) = numV k l ++ numV k m := by simp [numV]
theorem numV_take (k : IntKind) (l : List Nat) (n : Nat) : (numV k l).take n = numV k (l.take n) := by simp [numV, List.map_take]
theorem numV_drop (k : IntKind) (l : List Nat) (n : Nat) : (numV k l).drop n = numV k (l.drop n) := by simp [numV, List.map_drop]
theorem numV_set (k : IntKind) (l : List Nat) (i n : Nat) : (numV k l).set i (.int k (n : Int)) = numV k (l.set i n) := by simp [numV, List.map_set]
theorem numV_cons (k : IntKind) (n : Nat) (l : List Nat) : numV k (n :: l) = .int k (n : Int) :: numV k l := rfl
@[simp] theorem numV_nil (k : IntKind) : numV k [] = [] := rfl
theorem numV_replicate (k : IntKind) (n m : Nat) : numV k (List.replicate n m) = List.replicate n (.int k (m : Int)) := by simp [numV]
theorem numV_getD {k : IntKind} {l : List Nat} {i : Nat} (h : i < l.length) : (numV k l)[i]? = some (.int k ((l.getD i 0 : Nat) : Int)) := by
  rw [numV_get, List.getD_eq_getElem?_getD, List.getElem?_eq_getElem h]; rfl
theorem bytesV_getD {l : List UInt8} {i : Nat} (h : i < l.length) : (bytesV l)[i]? = some (byteV (l.getD i 0)) := by
  rw [bytesV_get, List.getD_eq_getElem?_getD, List.getElem?_eq_getElem h]; rfl
theorem bytesV_set (l : List UInt8) (i : Nat) (b : UInt8) : (bytesV l).set i (byteV b) = bytesV (l.set i b) := by simp [bytesV, List.map_set]
theorem bytesV_replicate (n : Nat) (b : UInt8) : bytesV (List.replicate n b) = List.replicate n (byteV b) := by simp [bytesV]
@[simp] theorem int?_int (k : IntKind) (n : Int) : V.int? k (.int k n) = some n := by simp [V.int?]
@[simp] theorem cells_int (k : IntKind) (n : Int) : (V.int k n).cells = [.int k n] := rfl
@[simp] theorem storeEl_int (k : IntKind) (n : Int) (j : Nat) (v : V) : storeEl (.int k n) j [v] = v := rfl
theorem len_bytesV (l : List UInt8) : len (bytesV l) = (l.length : Int) := by simp [len]
theorem len_numV (k : IntKind) (l : List Nat) : len (numV k l) = (l.length : Int) := by simp [len]

/-! Words that fit. -/
theorem w64_in {n : Int} (h1 : -9223372036854775808 ≤ n) (h2 : n ≤ 9223372036854775807) : w64 n = n := wrap_in h1 h2
theorem w64_nat {n : Nat} (h : n < 9223372036854775808) : w64 (n : Int) = (n : Int) := wrap_nat h
theorem wu8_nat (n : Nat) : wu8 (n : Int) = ((n % 256 : Nat) : Int) := wrap_u8 n
theorem wu32_eq (n : Int) : wu32 n = n % 4294967296 := by simp [wu32, IntKind.wrap, IntKind.bits, IntKind.signed]
theorem wu64_eq (n : Int) : wu64 n = n % 18446744073709551616 := by simp [wu64, IntKind.wrap, IntKind.bits, IntKind.signed]
theorem wu8_eq (n : Int) : wu8 n = n % 256 := by simp [wu8, IntKind.wrap, IntKind.bits, IntKind.signed]
theorem wu32_nat (n : Nat) : wu32 (n : Int) = ((n % 4294967296 : Nat) : Int) := by rw [wu32_eq]; omega
theorem wu64_nat (n : Nat) : wu64 (n : Int) = ((n % 18446744073709551616 : Nat) : Int) := by rw [wu64_eq]; omega
theorem wrap_uns {k : IntKind} (h : k.signed = false) (n : Nat) : k.wrap (n : Int) = ((n % 2 ^ k.bits : Nat) : Int) := by
  cases k <;> simp [IntKind.signed] at h <;> simp [IntKind.wrap, IntKind.bits, IntKind.signed]

theorem wordOr_uns {k : IntKind} (h : k.signed = false) {a b : Nat} (ha : a < 2 ^ k.bits) (hb : b < 2 ^ k.bits) : wordOr k (a : Int) (b : Int) = ((a ||| b : Nat) : Int) := by
  unfold wordOr
  simp only [BitVec.toNat_or, BitVec.ofInt_natCast, BitVec.toNat_ofNat]
  rw [Nat.mod_eq_of_lt ha, Nat.mod_eq_of_lt hb, wrap_uns h, Nat.mod_eq_of_lt (Nat.or_lt_two_pow ha hb)]
theorem wordAnd_uns {k : IntKind} (h : k.signed = false) {a b : Nat} (ha : a < 2 ^ k.bits) (hb : b < 2 ^ k.bits) : wordAnd k (a : Int) (b : Int) = ((a &&& b : Nat) : Int) := by
  unfold wordAnd
  simp only [BitVec.toNat_and, BitVec.ofInt_natCast, BitVec.toNat_ofNat]
  rw [Nat.mod_eq_of_lt ha, Nat.mod_eq_of_lt hb, wrap_uns h, Nat.mod_eq_of_lt (Nat.and_lt_two_pow _ hb)]
theorem wordXor_uns {k : IntKind} (h : k.signed = false) {a b : Nat} (ha : a < 2 ^ k.bits) (hb : b < 2 ^ k.bits) : wordXor k (a : Int) (b : Int) = ((a ^^^ b : Nat) : Int) := by
  unfold wordXor
  simp only [BitVec.toNat_xor, BitVec.ofInt_natCast, BitVec.toNat_ofNat]
  rw [Nat.mod_eq_of_lt ha, Nat.mod_eq_of_lt hb, wrap_uns h, Nat.mod_eq_of_lt (Nat.xor_lt_two_pow ha hb)]
theorem wordShl_uns {k : IntKind} (h : k.signed = false) (a n : Nat) (hn : n ≤ k.bits) : wordShl k (a : Int) (n : Int) = ((a * 2 ^ n % 2 ^ k.bits : Nat) : Int) := by
  unfold wordShl
  rw [Int.toNat_natCast, Nat.min_eq_left hn, show (a : Int) * 2 ^ n = ((a * 2 ^ n : Nat) : Int) by simp, wrap_uns h]
theorem wordShr_any {k : IntKind} (a n : Nat) (hn : n ≤ k.bits) : wordShr k (a : Int) (n : Int) = ((a / 2 ^ n : Nat) : Int) := by
  unfold wordShr
  rw [Int.toNat_natCast, Nat.min_eq_left hn, show ((2 : Int) ^ n) = ((2 ^ n : Nat) : Int) by simp, Int.fdiv_eq_ediv_of_nonneg _ (Int.natCast_nonneg _)]
  rfl

theorem wordOr_u8 {a b : Nat} (ha : a < 256) (hb : b < 256) : wordOr .u8 (a : Int) (b : Int) = ((a ||| b : Nat) : Int) := wordOr_uns rfl ha hb
theorem wordOr_u32 {a b : Nat} (ha : a < 4294967296) (hb : b < 4294967296) : wordOr .u32 (a : Int) (b : Int) = ((a ||| b : Nat) : Int) := wordOr_uns rfl ha hb
theorem wordOr_u64 {a b : Nat} (ha : a < 18446744073709551616) (hb : b < 18446744073709551616) : wordOr .u64 (a : Int) (b : Int) = ((a ||| b : Nat) : Int) := wordOr_uns rfl ha hb
theorem wordAnd_u8 {a b : Nat} (ha : a < 256) (hb : b < 256) : wordAnd .u8 (a : Int) (b : Int) = ((a &&& b : Nat) : Int) := wordAnd_uns rfl ha hb
theorem wordAnd_u32 {a b : Nat} (ha : a < 4294967296) (hb : b < 4294967296) : wordAnd .u32 (a : Int) (b : Int) = ((a &&& b : Nat) : Int) := wordAnd_uns rfl ha hb
theorem wordAnd_u64 {a b : Nat} (ha : a < 18446744073709551616) (hb : b < 18446744073709551616) : wordAnd .u64 (a : Int) (b : Int) = ((a &&& b : Nat) : Int) := wordAnd_uns rfl ha hb
theorem wordXor_u8 {a b : Nat} (ha : a < 256) (hb : b < 256) : wordXor .u8 (a : Int) (b : Int) = ((a ^^^ b : Nat) : Int) := wordXor_uns rfl ha hb
theorem wordXor_u32 {a b : Nat} (ha : a < 4294967296) (hb : b < 4294967296) : wordXor .u32 (a : Int) (b : Int) = ((a ^^^ b : Nat) : Int) := wordXor_uns rfl ha hb
theorem wordXor_u64 {a b : Nat} (ha : a < 18446744073709551616) (hb : b < 18446744073709551616) : wordXor .u64 (a : Int) (b : Int) = ((a ^^^ b : Nat) : Int) := wordXor_uns rfl ha hb
theorem wordShl_u8 (a n : Nat) (hn : n ≤ 8) : wordShl .u8 (a : Int) (n : Int) = ((a * 2 ^ n % 256 : Nat) : Int) := wordShl_uns rfl a n hn
theorem wordShr_u8 (a n : Nat) (hn : n ≤ 8) : wordShr .u8 (a : Int) (n : Int) = ((a / 2 ^ n : Nat) : Int) := wordShr_any a n hn
theorem wordShl_u32 (a n : Nat) (hn : n ≤ 32) : wordShl .u32 (a : Int) (n : Int) = ((a * 2 ^ n % 4294967296 : Nat) : Int) := wordShl_uns rfl a n hn
theorem wordShr_u32 (a n : Nat) (hn : n ≤ 32) : wordShr .u32 (a : Int) (n : Int) = ((a / 2 ^ n : Nat) : Int) := wordShr_any a n hn
theorem wordShl_u64 (a n : Nat) (hn : n ≤ 64) : wordShl .u64 (a : Int) (n : Int) = ((a * 2 ^ n % 18446744073709551616 : Nat) : Int) := wordShl_uns rfl a n hn
theorem wordShr_u64 (a n : Nat) (hn : n ≤ 64) : wordShr .u64 (a : Int) (n : Int) = ((a / 2 ^ n : Nat) : Int) := wordShr_any a n hn

/-- Bits that do not meet, laid together. -/
theorem or_high {a b m : Nat} (h1 : 2 ^ m ∣ a) (h2 : b < 2 ^ m) : a ||| b = a + b := by
  obtain ⟨c, rfl⟩ := h1
  exact (Nat.two_pow_add_eq_or_of_lt h2 c).symm
theorem or_low {a b m : Nat} (h1 : a < 2 ^ m) (h2 : 2 ^ m ∣ b) : a ||| b = a + b := by rw [Nat.or_comm, or_high h2 h1, Nat.add_comm]
end Go.Proofs.Ytffofdfikmpanaa.A

namespace Go.Proofs.Ytffofdfikmpanaa.A
set_option linter.unusedVariables false
theorem all_id (l : List V) : all l = l := by cases l <;> exact all_eq _
theorem bind_to {α β : Type} {a : Option α} {v : α} {f : α → Option β} {r : Option β} (h1 : a = some v) (h2 : f v = r) : a.bind f = r := by rw [h1]; exact h2
theorem beqI (a b : Int) : (a == b) = decide (a = b) := by rw [Bool.eq_iff_iff]; simp
theorem lst_of (l : List V) : V.lst? false 1 (V.sl false false 1 l) = some l := by simp [V.lst?]
end Go.Proofs.Ytffofdfikmpanaa.A

namespace Go.Proofs.Ytffofdfikmpanaa.A
set_option linter.unusedVariables false
set_option linter.unusedSimpArgs false

/-- The number of digits, the lowest first. -/
def val (B : Nat) : List Nat → Nat
  | [] => 0
  | d :: r => d + B * val B r

def digF (B : Nat) : Nat → Nat → List Nat
  | 0, _ => []
  | f + 1, n => if n = 0 then [] else n % B :: digF B f (n / B)
/-- A number's digits, the lowest first; none of 0. -/
def dig (B n : Nat) : List Nat := digF B n n

def bitlen (n : Nat) : Nat := if n = 0 then 0 else n.log2 + 1

theorem digF_eq {B : Nat} (hB : 2 ≤ B) : ∀ {f g n : Nat}, n ≤ f → n ≤ g → digF B f n = digF B g n
  | 0, 0, n, _, _ => rfl
  | 0, g + 1, n, h, _ => by simp [digF, show n = 0 by omega]
  | f + 1, 0, n, _, h => by simp [digF, show n = 0 by omega]
  | f + 1, g + 1, n, h1, h2 => by
    simp only [digF]
    split
    · rfl
    · rename_i hn
      have : n / B < n := Nat.div_lt_self (by omega) (by omega)
      rw [digF_eq hB (f := f) (g := g) (by omega) (by omega)]
theorem dig_zero (B : Nat) : dig B 0 = [] := rfl
theorem dig_pos {B n : Nat} (hB : 2 ≤ B) (h : 0 < n) : dig B n = n % B :: dig B (n / B) := by
  obtain ⟨m, rfl⟩ : ∃ m, n = m + 1 := ⟨n - 1, by omega⟩
  unfold dig
  have : (m + 1) / B < m + 1 := Nat.div_lt_self (by omega) (by omega)
  rw [digF, if_neg (by omega), digF_eq hB (f := m) (g := (m + 1) / B) (by omega) (Nat.le_refl _)]

theorem val_append (B : Nat) : ∀ l m : List Nat, val B (l ++ m) = val B l + B ^ l.length * val B m
  | [], m => by simp [val]
  | d :: l, m => by
    simp only [List.cons_append, val, val_append B l m, List.length_cons, Nat.pow_succ, Nat.mul_add]
    rw [Nat.mul_comm (B ^ l.length) B, Nat.mul_assoc]; omega
theorem val_lt {B : Nat} : ∀ {l : List Nat}, (∀ d ∈ l, d < B) → val B l < B ^ l.length
  | [], _ => by simp [val]
  | d :: l, h => by
    have h1 := val_lt (l := l) fun d hd => h d (by simp [hd])
    have h0 := h d (by simp)
    simp only [val, List.length_cons, Nat.pow_succ]
    have : B * (val B l + 1) ≤ B * B ^ l.length := Nat.mul_le_mul_left _ h1
    rw [Nat.mul_comm (B ^ l.length) B]; rw [Nat.mul_add] at this; omega
theorem val_dig {B : Nat} (hB : 2 ≤ B) (n : Nat) : val B (dig B n) = n := by
  induction n using Nat.strongRecOn with
  | _ n ih =>
    by_cases h : n = 0
    · subst h; rfl
    · rw [dig_pos hB (by omega)]
      simp only [val]
      rw [ih _ (Nat.div_lt_self (by omega) (by omega))]
      exact Nat.mod_add_div n B
theorem dig_lt {B : Nat} (hB : 2 ≤ B) (n : Nat) : ∀ d ∈ dig B n, d < B := by
  induction n using Nat.strongRecOn with
  | _ n ih =>
    by_cases h : n = 0
    · subst h; simp [dig_zero]
    · rw [dig_pos hB (by omega)]
      intro d hd
      rcases List.mem_cons.1 hd with rfl | hd
      · exact Nat.mod_lt _ (by omega)
      · exact ih _ (Nat.div_lt_self (by omega) (by omega)) d hd
theorem dig_last {B : Nat} (hB : 2 ≤ B) (n : Nat) : (dig B n).getLast? ≠ some 0 := by
  induction n using Nat.strongRecOn with
  | _ n ih =>
    by_cases h : n = 0
    · subst h; simp [dig_zero]
    · rw [dig_pos hB (by omega)]
      have := ih _ (Nat.div_lt_self (n := n) (k := B) (by omega) (by omega))
      cases h2 : dig B (n / B) with
      | nil =>
        have h3 : n / B = 0 := by rw [← val_dig hB (n / B), h2]; rfl
        have : n % B = n := Nat.mod_eq_of_lt ((Nat.div_eq_zero_iff.1 h3).resolve_left (by omega))
        simp; omega
      | cons x r => rw [h2] at this; simpa using this
/-- Digits without a last nought are those of their number. -/
theorem dig_val {B : Nat} (hB : 2 ≤ B) : ∀ {l : List Nat}, (∀ d ∈ l, d < B) → l.getLast? ≠ some 0 → dig B (val B l) = l
  | [], _, _ => rfl
  | d :: l, h, hl => by
    have hd := h d (by simp)
    have ih := dig_val hB (l := l) (fun d hd => h d (by simp [hd])) (by
      cases l with
      | nil => simp
      | cons x r => simpa using hl)
    have hpos : 0 < val B (d :: l) := by
      simp only [val]
      cases l with
      | nil => simp at hl; simp [val]; omega
      | cons x r =>
        rcases Nat.eq_zero_or_pos (val B (x :: r)) with h0 | h0
        · rw [h0] at ih; cases ih
        · have := Nat.mul_pos (show 0 < B by omega) h0; omega
    rw [dig_pos hB hpos]
    simp only [val]
    rw [Nat.add_mul_mod_self_left, Nat.mod_eq_of_lt hd, Nat.add_mul_div_left _ _ (by omega), Nat.div_eq_of_lt hd, Nat.zero_add, ih]

theorem val_zeros (B : Nat) : ∀ {l : List Nat}, (∀ d ∈ l, d = 0) → val B l = 0
  | [], _ => rfl
  | d :: l, h => by simp only [val]; rw [h d (by simp), val_zeros B fun d hd => h d (by simp [hd])]; simp

/-- What is left of digits without noughts at the end. -/
theorem dig_take {B : Nat} (hB : 2 ≤ B) {l : List Nat} {n : Nat} (hl : ∀ d ∈ l, d < B) (hn : n ≤ l.length) (hz : ∀ i, n ≤ i → l.getD i 0 = 0) (ht : n = 0 ∨ l.getD (n - 1) 0 ≠ 0) : dig B (val B l) = l.take n := by
  have h1 : val B l = val B (l.take n) := by
    conv => lhs; rw [← List.take_append_drop n l]
    rw [val_append, val_zeros B (l := l.drop n), Nat.mul_zero, Nat.add_zero]
    intro d hd
    obtain ⟨i, hi⟩ := List.mem_iff_getElem?.1 hd
    rw [List.getElem?_drop] at hi
    have := hz (n + i) (by omega)
    rw [List.getD_eq_getElem?_getD, hi] at this
    simpa using this
  rw [h1]
  refine dig_val hB (fun d hd => hl d (List.mem_of_mem_take hd)) ?_
  rcases ht with rfl | ht
  · simp
  · rw [List.getLast?_eq_getElem?, List.length_take, Nat.min_eq_left hn]
    intro h
    rw [List.getElem?_take] at h
    split at h
    · rw [List.getD_eq_getElem?_getD, h] at ht; simp at ht
    · cases h

/-- A digit. -/
theorem val_digit {B : Nat} (hB : 0 < B) : ∀ {l : List Nat} {k : Nat}, (∀ d ∈ l, d < B) → val B l / B ^ k % B = l.getD k 0
  | [], k, _ => by simp [val]
  | d :: l, 0, h => by simp [val, Nat.add_mul_mod_self_left, Nat.mod_eq_of_lt (h d (by simp))]
  | d :: l, k + 1, h => by
    simp only [val, List.getD_cons_succ]
    rw [Nat.pow_succ, Nat.mul_comm (B ^ k) B, ← Nat.div_div_eq_div_mul, Nat.add_mul_div_left _ _ hB, Nat.div_eq_of_lt (h d (by simp)), Nat.zero_add]
    exact val_digit hB fun d hd => h d (by simp [hd])

/-! ### How many bits -/

theorem bitlen_le {n k : Nat} : bitlen n ≤ k ↔ n < 2 ^ k := by
  unfold bitlen
  split
  · rename_i h; subst h; simp [Nat.two_pow_pos]
  · rename_i h
    rw [← Nat.log2_lt h]; omega
theorem bitlen_zero : bitlen 0 = 0 := rfl
theorem bitlen_eq {n k : Nat} (h1 : 2 ^ k ≤ n) (h2 : n < 2 ^ (k + 1)) : bitlen n = k + 1 := by
  have h3 := bitlen_le.2 h2
  have h4 : ¬ bitlen n ≤ k := fun h => by have := bitlen_le.1 h; omega
  omega
theorem lt_bitlen (n : Nat) : n < 2 ^ bitlen n := bitlen_le.1 (Nat.le_refl _)
theorem bitlen_ge {n : Nat} (h : n ≠ 0) : 2 ^ (bitlen n - 1) ≤ n := by
  rcases Nat.lt_or_ge n (2 ^ (bitlen n - 1)) with h1 | h1
  · have := bitlen_le.2 h1
    have : bitlen n ≠ 0 := by unfold bitlen; rw [if_neg h]; omega
    omega
  · exact h1
theorem bitlen_pos {n : Nat} (h : n ≠ 0) : 0 < bitlen n := by unfold bitlen; rw [if_neg h]; omega
theorem bitlen_mono {a b : Nat} (h : a ≤ b) : bitlen a ≤ bitlen b := bitlen_le.2 (Nat.lt_of_le_of_lt h (lt_bitlen b))
/-- The bits of a highest digit, and those below it. -/
theorem bitlen_top {k w v m : Nat} (hw : w ≠ 0) (hv : v < 2 ^ m) : bitlen (v + 2 ^ m * w) = m + bitlen w := by
  obtain ⟨j, hj⟩ : ∃ j, bitlen w = j + 1 := ⟨bitlen w - 1, by have := bitlen_pos hw; omega⟩
  rw [hj]
  have h1 := bitlen_ge hw
  have h2 := lt_bitlen w
  rw [hj] at h1 h2
  simp only [Nat.add_sub_cancel] at h1
  rw [← Nat.add_assoc]
  refine bitlen_eq ?_ ?_
  · rw [Nat.pow_add]
    have := Nat.mul_le_mul_left (2 ^ m) h1
    omega
  · rw [show m + j + 1 = m + (j + 1) by omega, Nat.pow_add]
    have : 2 ^ m * (w + 1) ≤ 2 ^ m * 2 ^ (j + 1) := Nat.mul_le_mul_left _ h2
    rw [Nat.mul_add] at this; omega

/-! ### Bytes, the highest first -/

/-- So many bytes of a number. -/
def beN : Nat → Nat → List UInt8
  | 0, _ => []
  | n + 1, v => UInt8.ofNat (v / 256 ^ n) :: beN n v
/-- The number of bytes. -/
def beval (l : List UInt8) : Nat := l.foldl (fun a b => a * 256 + b.toNat) 0
/-- A number's bytes. -/
def be (v : Nat) : List UInt8 := beN ((bitlen v + 7) / 8) v

theorem beN_length (n v : Nat) : (beN n v).length = n := by induction n <;> simp_all [beN]
theorem beN_get {n v i : Nat} (h : i < n) : (beN n v)[i]? = some (UInt8.ofNat (v / 256 ^ (n - 1 - i))) := by
  induction n generalizing i with
  | zero => omega
  | succ n ih =>
    simp only [beN]
    cases i with
    | zero => simp
    | succ i => rw [List.getElem?_cons_succ, ih (by omega)]; congr 4; omega
theorem beval_foldl (l : List UInt8) (a : Nat) : l.foldl (fun a b => a * 256 + b.toNat) a = a * 256 ^ l.length + beval l := by
  unfold beval
  induction l generalizing a with
  | nil => simp
  | cons b l ih =>
    simp only [List.foldl_cons, List.length_cons]
    rw [ih, ih (0 * 256 + b.toNat)]
    rw [Nat.pow_succ, Nat.add_mul, Nat.zero_mul, Nat.zero_add, Nat.mul_assoc, Nat.mul_comm 256]; omega
theorem beval_append (l m : List UInt8) : beval (l ++ m) = beval l * 256 ^ m.length + beval m := by
  conv => lhs; unfold beval
  rw [List.foldl_append, beval_foldl]; rfl
theorem beval_nil : beval [] = 0 := rfl
theorem beval_cons (b : UInt8) (l : List UInt8) : beval (b :: l) = b.toNat * 256 ^ l.length + beval l := by
  rw [show b :: l = [b] ++ l from rfl, beval_append]; simp [beval]
theorem beval_lt (l : List UInt8) : beval l < 256 ^ l.length := by
  induction l with
  | nil => simp [beval]
  | cons b l ih =>
    rw [beval_cons, List.length_cons, Nat.pow_succ]
    have := u8_lt b
    have : (b.toNat + 1) * 256 ^ l.length ≤ 256 * 256 ^ l.length := Nat.mul_le_mul_right _ (by omega)
    rw [Nat.add_mul] at this; omega
theorem beval_beN (n v : Nat) : beval (beN n v) = v % 256 ^ n := by
  induction n with
  | zero => simp [beN, beval, Nat.mod_one]
  | succ n ih =>
    rw [beN, beval_cons, beN_length, ih, Nat.pow_succ, Nat.mod_mul, UInt8.toNat_ofNat']
    rw [Nat.mul_comm, show (2 : Nat) ^ 8 = 256 from rfl]; omega
theorem beval_be (v : Nat) : beval (be v) = v := by
  unfold be
  rw [beval_beN, Nat.mod_eq_of_lt]
  have h := lt_bitlen v
  refine Nat.lt_of_lt_of_le h ?_
  rw [show (256 : Nat) = 2 ^ 8 from rfl, ← Nat.pow_mul]
  exact Nat.pow_le_pow_right (by decide) (by omega)
theorem beN_beval (l : List UInt8) : beN l.length (beval l) = l := by
  induction l with
  | nil => rfl
  | cons b l ih =>
    simp only [List.length_cons, beN]
    have h := beval_lt l
    have h1 : beval (b :: l) / 256 ^ l.length = b.toNat := by
      rw [beval_cons, Nat.add_comm, Nat.add_mul_div_right _ _ (Nat.pow_pos (by decide)), Nat.div_eq_of_lt h, Nat.zero_add]
    have h2 : ∀ n, n ≤ l.length → beN n (beval (b :: l)) = beN n (beval l) := by
      intro n hn
      induction n with
      | zero => rfl
      | succ n ihn =>
        simp only [beN]
        rw [ihn (by omega)]
        congr 1
        have : beval (b :: l) / 256 ^ n % 256 = beval l / 256 ^ n % 256 := by
          rw [beval_cons]
          obtain ⟨j, hj⟩ : ∃ j, l.length = n + 1 + j := ⟨l.length - (n + 1), by omega⟩
          rw [hj, Nat.pow_add, Nat.pow_succ]
          rw [show b.toNat * (256 ^ n * 256 * 256 ^ j) = 256 ^ n * (256 * (256 ^ j * b.toNat)) by ac_rfl]
          rw [Nat.mul_add_div (Nat.pow_pos (by decide)), Nat.mul_add_mod]
        apply UInt8.toNat_inj.1
        rw [UInt8.toNat_ofNat', UInt8.toNat_ofNat']; exact this
    rw [h1, h2 _ (Nat.le_refl _), ih]; simp
end Go.Proofs.Ytffofdfikmpanaa.A

namespace Go.Proofs.Ytffofdfikmpanaa.A
set_option linter.unusedVariables false
set_option linter.unusedSimpArgs false
set_option maxRecDepth 10000

/-- Words of 32 bits. -/
abbrev W32 : Nat := 4294967296
def isW (l : List Nat) : Prop := ∀ d ∈ l, d < W32
theorem isW.getD {l : List Nat} (h : isW l) (i : Nat) : l.getD i 0 < W32 := by
  rw [List.getD_eq_getElem?_getD]
  cases hi : l[i]? with
  | none => exact (by decide)
  | some d => exact h d (List.mem_of_getElem? hi)
theorem isW_dig (n : Nat) : isW (dig W32 n) := dig_lt (by decide) n
theorem W32_pow : W32 = 2 ^ 32 := by decide

theorem nat_trim_eq (l : List Nat) (hl : isW l) (hn : l.length ≤ 1000000000) : F_nat_trim (numV .u32 l) = some (numV .u32 (dig W32 (val W32 l))) := by
  unfold F_nat_trim
  simp only [decide_eq_true_eq, len_numV]
  refine loopO_run (ι := Nat) (fun n => (numV .u32 l, (n : Int))) (fun _ => numV .u32 (dig W32 (val W32 l))) (fun n => n ≤ l.length ∧ ∀ i, n ≤ i → l.getD i 0 = 0) (fun n => n) ?_ l.length
    ⟨Nat.le_refl _, fun i hi => by rw [List.getD_eq_getElem?_getD, List.getElem?_eq_none hi]; rfl⟩
  rintro n ⟨h1, h2⟩
  dsimp only
  by_cases h0 : n = 0 ∨ l.getD (n - 1) 0 ≠ 0
  · right
    have hc : (if (n : Int) > 0 then if 0 ≤ w64 ((n : Int) - 1) then ((numV .u32 l)[Int.toNat (w64 ((n : Int) - 1))]?).bind fun v3 => (V.int? .u32 v3).bind fun v4 => some (v4 == 0) else none else some false : Option Bool) = some false := by
      rcases h0 with rfl | h0
      · rfl
      · have : 0 < n := by
          rcases Nat.eq_zero_or_pos n with rfl | h
          · exact absurd (h2 0 (Nat.le_refl _)) h0
          · exact h
        rw [if_pos (by omega), w64_in (by omega) (by omega), if_pos (by omega), show ((n : Int) - 1).toNat = n - 1 by omega, numV_getD (by omega)]
        simp only [Option.bind_some, int?_int]
        rw [show (((l.getD (n - 1) 0 : Nat) : Int) == 0) = false by simp only [beq_eq_false_iff_ne]; omega]
    rw [hc]
    simp only [Option.bind_some, Bool.false_eq_true, if_false]
    rw [if_pos (by omega), if_pos (by omega)]
    simp only [numV_length, Int.toNat_natCast, true_and]
    rw [if_pos (by omega)]
    simp only [Option.bind_some, List.drop_zero]
    rw [dig_take (by decide) hl h1 h2 h0, numV_take]
  · left
    have h3 : 0 < n := by omega
    have h4 : l.getD (n - 1) 0 = 0 := by omega
    refine ⟨n - 1, ?_, ⟨by omega, fun i hi => ?_⟩, by omega, rfl⟩
    · rw [if_pos (by omega), w64_in (by omega) (by omega), if_pos (by omega), show ((n : Int) - 1).toNat = n - 1 by omega, numV_getD (by omega)]
      simp only [Option.bind_some, int?_int, h4]
      rw [if_pos (by rfl), show ((n : Int) - 1) = ((n - 1 : Nat) : Int) by omega]
    · by_cases hi2 : i = n - 1
      · rw [hi2, h4]
      · exact h2 i (by omega)

theorem nat_word_eq (l : List Nat) (i : Nat) : F_nat_word (numV .u32 l, (i : Int)) = some ((l.getD i 0 : Nat) : Int) := by
  unfold F_nat_word
  simp only [decide_eq_true_eq, len_numV]
  by_cases h : i < l.length
  · rw [if_pos (by omega), if_pos (by omega), Int.toNat_natCast, numV_getD h]; simp
  · rw [if_neg (by omega), List.getD_eq_getElem?_getD, List.getElem?_eq_none (by omega)]; rfl

/-! ### Bits -/

theorem tab_use {T : List UInt8} {n : Nat} (h : n < 256) (hT : (List.range 256).all (fun n => T[n]? == some (UInt8.ofNat (bitlen n))) = true) : T[n]? = some (UInt8.ofNat (bitlen n)) := by
  have := List.all_eq_true.1 hT n (List.mem_range.2 h)
  simpa using this

/-- Eight bits less, and eight more. -/
theorem bitlen_shift {n k : Nat} (h : 2 ^ k ≤ n) : bitlen n = k + bitlen (n / 2 ^ k) := by
  have h1 : n / 2 ^ k ≠ 0 := by
    have := Nat.div_pos h (Nat.two_pow_pos k)
    omega
  have h2 := bitlen_top (k := k) (w := n / 2 ^ k) (v := n % 2 ^ k) (m := k) h1 (Nat.mod_lt _ (Nat.two_pow_pos k))
  rw [Nat.mod_add_div] at h2
  exact h2

theorem len32_eq (n : Nat) (h : n < W32) : F_math_bits_Len32 (n : Int) = some ((bitlen n : Nat) : Int) := by
  have last : ∀ (m c : Nat), m < 256 → c ≤ 100 → (if 0 ≤ wu8 (m : Int) then some (w64 ((c : Int) + w64 ((bitlen m : Nat) : Int))) else none : Option Int) = some ((c + bitlen m : Nat) : Int) := by
    intro m c hm hc
    have hb : bitlen m ≤ 8 := bitlen_le.2 hm
    rw [wu8_nat, if_pos (by omega), w64_nat (n := bitlen m) (by omega), w64_in (by omega) (by omega)]
    rfl
  have tab : ∀ (m : Nat), m < 256 → Int.toNat (wu8 (m : Int)) = m := fun m hm => by rw [wu8_nat, Int.toNat_natCast]; omega
  have ofn : ∀ m, m < 256 → (UInt8.ofNat (bitlen m)).toNat = bitlen m := fun m hm => by
    have hb : bitlen m ≤ 8 := bitlen_le.2 hm
    rw [UInt8.toNat_ofNat']; omega
  have h' : n < 4294967296 := h
  unfold F_math_bits_Len32
  simp only [decide_eq_true_eq]
  have hsh : ∀ m k : Nat, k ≤ 32 → wordShr .u32 (m : Int) (k : Int) = ((m / 2 ^ k : Nat) : Int) := fun m k hk => wordShr_any m k hk
  by_cases h16 : 65536 ≤ n
  · rw [if_pos (by omega), show (16 : Int) = ((16 : Nat) : Int) from rfl, hsh n 16 (by omega)]
    simp only [Option.bind_some]
    by_cases h8 : 256 ≤ n / 2 ^ 16
    · rw [if_pos (by omega), show (8 : Int) = ((8 : Nat) : Int) from rfl, hsh _ 8 (by omega), w64_in (by omega) (by omega)]
      simp only [Option.bind_some]
      have hm : n / 2 ^ 16 / 2 ^ 8 < 256 := by omega
      rw [tab _ hm, tab_use hm (by decide +kernel)]
      simp only [Option.bind_some, ofn _ hm]
      rw [show ((16 : Nat) : Int) + ((8 : Nat) : Int) = ((24 : Nat) : Int) from rfl, last _ 24 hm (by omega), bitlen_shift (n := n) (k := 16) (by omega), bitlen_shift (n := n / 2 ^ 16) (k := 8) (by omega), ← Nat.add_assoc]
    · rw [if_neg (by omega)]
      simp only [Option.bind_some]
      have hm : n / 2 ^ 16 < 256 := by omega
      rw [tab _ hm, tab_use hm (by decide +kernel)]
      simp only [Option.bind_some, ofn _ hm]
      rw [last _ 16 hm (by omega), bitlen_shift (n := n) (k := 16) (by omega)]
  · rw [if_neg (by omega)]
    simp only [Option.bind_some]
    by_cases h8 : 256 ≤ n
    · rw [if_pos (by omega), show (8 : Int) = ((8 : Nat) : Int) from rfl, hsh _ 8 (by omega), w64_in (by omega) (by omega)]
      simp only [Option.bind_some]
      have hm : n / 2 ^ 8 < 256 := by omega
      rw [tab _ hm, tab_use hm (by decide +kernel)]
      simp only [Option.bind_some, ofn _ hm]
      rw [show (0 : Int) + ((8 : Nat) : Int) = ((8 : Nat) : Int) from rfl, last _ 8 hm (by omega), bitlen_shift (n := n) (k := 8) (by omega)]
    · rw [if_neg (by omega)]
      simp only [Option.bind_some]
      have hm : n < 256 := by omega
      rw [tab _ hm, tab_use hm (by decide +kernel)]
      simp only [Option.bind_some, ofn _ hm]
      have := last n 0 hm (by omega)
      rw [Nat.zero_add] at this
      exact this

/-- A number's words from the highest one on, each with its place. -/
def downL (k : IntKind) (l : List Nat) (n : Nat) : List (List V) := (List.range n).reverse.map fun (i : Nat) => [V.int .i64 (i : Int), V.int k ((l.getD i 0 : Nat) : Int)]
theorem downL_zero (k : IntKind) (l : List Nat) : downL k l 0 = [] := rfl
theorem downL_succ (k : IntKind) (l : List Nat) (n : Nat) : downL k l (n + 1) = [V.int .i64 (n : Int), V.int k ((l.getD n 0 : Nat) : Int)] :: downL k l n := by simp [downL, List.range_succ]
theorem downItems_eq (k : IntKind) (l : List Nat) (hl : l.length ≤ 4611686018427387904) : downItems k (numV k l) = some (downL k l l.length) := by
  unfold downItems downL
  rw [if_pos (by simp [numV, V.isInt]; exact hl), numV_length]
  congr 1
  refine List.map_congr_left fun i hi => ?_
  rw [numV_getD (by simpa using hi)]; rfl

theorem nat_bits_eq (l : List Nat) (hl : isW l) (hn : l.length ≤ 1000000) : F_nat_Bits (numV .u32 l) = some ((bitlen (val W32 l) : Nat) : Int) := by
  unfold F_nat_Bits F_nat_down
  simp only [Option.bind_some]
  rw [downItems_eq _ _ (by omega)]
  simp only [Option.bind_some]
  refine loopO_run (ι := Nat) (fun n => (downL .u32 l n, 0, numV .u32 l)) (fun n => ((bitlen (val W32 (l.take n)) : Nat) : Int)) (fun n => n ≤ l.length) (fun n => n) ?_ l.length (Nat.le_refl _) |>.trans (by rw [List.take_length])
  intro n hnl
  dsimp only
  cases n with
  | zero => right; rfl
  | succ n =>
    simp only [downL_succ, List.getElem?_cons_zero, List.getElem?_cons_succ, Option.bind_some, int?_int, List.length_cons, List.length_nil]
    rw [if_pos trivial]
    have htake : l.take (n + 1) = l.take n ++ [l.getD n 0] := by
      rw [List.take_add_one, List.getD_eq_getElem?_getD, List.getElem?_eq_getElem (by omega)]; rfl
    by_cases hz : l.getD n 0 = 0
    · left
      refine ⟨n, ?_, by omega, by omega, ?_⟩
      · rw [hz, if_neg (by decide)]
      · rw [htake, val_append, hz]; simp [val]
    · right
      rw [if_pos (by simp only [bne_iff_ne]; omega), len32_eq _ (hl.getD n)]
      have hb : bitlen (l.getD n 0) ≤ 32 := bitlen_le.2 (hl.getD n)
      simp only [Option.bind_some]
      rw [w64_in (n := 32 * (n : Int)) (by omega) (by omega), w64_in (by omega) (by omega), htake, val_append]
      have hlt : val W32 (l.take n) < 2 ^ (32 * n) := by
        have := val_lt (B := W32) (l := l.take n) fun d hd => hl d (List.mem_of_mem_take hd)
        rw [List.length_take, Nat.min_eq_left (by omega), W32_pow, ← Nat.pow_mul] at this
        rw [W32_pow]; exact this
      rw [List.length_take, Nat.min_eq_left (by omega)]
      have : val W32 [l.getD n 0] = l.getD n 0 := by simp [val]
      rw [this, show W32 ^ n = 2 ^ (32 * n) by rw [W32_pow, ← Nat.pow_mul], bitlen_top (k := 0) hz hlt]
      simp
end Go.Proofs.Ytffofdfikmpanaa.A

namespace Go.Proofs.Ytffofdfikmpanaa.A
set_option linter.unusedVariables false
set_option linter.unusedSimpArgs false
set_option maxRecDepth 10000

theorem set_repl {α : Type} (a b : α) (k : Nat) (m : List α) : (List.replicate (k + 1) a ++ m).set k b = List.replicate k a ++ b :: m := by
  rw [List.replicate_succ', List.append_assoc, List.set_append]
  simp
theorem byteV_zero : byteV 0 = .int .u8 0 := rfl
theorem byteV_of (n : Nat) : V.int .u8 ((n % 256 : Nat) : Int) = byteV (UInt8.ofNat n) := by
  unfold byteV; rw [UInt8.toNat_ofNat']
@[simp] theorem storeEl_byte (b : UInt8) (j : Nat) (v : V) : storeEl (byteV b) j [v] = v := rfl
theorem i64_tdiv {n k : Nat} : Int.tdiv (n : Int) (k : Int) = ((n / k : Nat) : Int) := rfl
theorem i64_tmod {n k : Nat} : Int.tmod (n : Int) (k : Int) = ((n % k : Nat) : Int) := rfl

/-- A byte of a number, by its word. -/
theorem byte_of_word {l : List Nat} (hl : isW l) (i : Nat) : l.getD (i / 4) 0 / 2 ^ (8 * (i % 4)) % 256 = val W32 l / 256 ^ i % 256 := by
  rw [← val_digit (by decide) hl]
  generalize val W32 l = v
  have h1 : v / 256 ^ i = v / W32 ^ (i / 4) / 256 ^ (i % 4) := by
    conv => lhs; rw [← Nat.div_add_mod i 4]
    rw [Nat.pow_add, ← Nat.div_div_eq_div_mul, Nat.pow_mul]
  rw [h1]
  generalize v / W32 ^ (i / 4) = x
  have hc : i % 4 = 0 ∨ i % 4 = 1 ∨ i % 4 = 2 ∨ i % 4 = 3 := by omega
  show x % 4294967296 / 2 ^ (8 * (i % 4)) % 256 = x / 256 ^ (i % 4) % 256
  rcases hc with h | h | h | h <;> rw [h] <;> simp only [Nat.reducePow, Nat.reduceMul] <;> omega

theorem nat_lay_eq (l : List Nat) (n : Nat) (hl : isW l) (hn : n ≤ 2147483648) : F_nat_lay (numV .u32 l, (n : Int)) = some (bytesV (beN n (val W32 l))) := by
  unfold F_nat_lay
  simp only [decide_eq_true_eq]
  rw [if_pos (by omega)]
  have hlen : len (rep (Int.toNat (n : Int)) (V.int .u8 0)) = (n : Int) := by simp [len, rep]
  rw [hlen]
  refine loopO_run (ι := Nat) (fun i => (numV .u32 l, (n : Int), bytesV (List.replicate (n - i) 0 ++ beN i (val W32 l)), (n : Int), (i : Int))) (fun _ => bytesV (beN n (val W32 l))) (fun i => i ≤ n) (fun i => n - i) ?_ 0 (Nat.zero_le _)
    |> (fun h => by rw [← h]; simp only [beN, List.append_nil, Nat.sub_zero, bytesV_replicate, byteV_zero, rep, Int.toNat_natCast]; rfl)
  intro i hi
  dsimp only
  by_cases h : i < n
  · left
    refine ⟨i + 1, ?_, h, by omega, rfl⟩
    rw [if_pos (by omega), show (4 : Int) = ((4 : Nat) : Int) from rfl, i64_tdiv, i64_tmod, w64_nat (n := i / 4) (by omega), nat_word_eq]
    simp only [Option.bind_some]
    have e8 : w64 (8 * ((i % 4 : Nat) : Int)) = ((8 * (i % 4) : Nat) : Int) := w64_in (by omega) (by omega)
    have e1 : w64 (w64 ((n : Int) - 1) - (i : Int)) = ((n - 1 - i : Nat) : Int) := by rw [w64_in (n := (n : Int) - 1) (by omega) (by omega), w64_in (by omega) (by omega)]; omega
    rw [e8, e1, if_neg (by omega)]
    simp only [len_bytesV, List.length_append, List.length_replicate, beN_length, Int.toNat_natCast, Nat.zero_add]
    rw [if_pos (by omega), bytesV_getD (by simp [beN_length]; omega)]
    simp only [Option.bind_some, cells_int, storeEl_byte]
    rw [wordShr_any _ _ (by simp only [IntKind.bits]; omega), wu8_nat, byte_of_word hl, byteV_of, bytesV_set, show n - i = (n - 1 - i) + 1 by omega, set_repl]
    have e2 : w64 ((i : Int) + 1) = ((i + 1 : Nat) : Int) := w64_in (by omega) (by omega)
    rw [e2, show n - (i + 1) = n - 1 - i by omega]; rfl
  · right
    rw [if_neg (by omega), all_eq, show n - i = 0 by omega, show i = n by omega]
    rfl

theorem nat_long_eq (l : List Nat) (hl : isW l) (hn : l.length ≤ 1000000) : F_nat_long (numV .u32 l) = some (((bitlen (val W32 l) + 7) / 8 : Nat) : Int) := by
  unfold F_nat_long
  rw [nat_bits_eq l hl hn]
  have hb : bitlen (val W32 l) ≤ 32 * l.length := by
    refine bitlen_le.2 ?_
    have := val_lt hl
    rwa [W32_pow, ← Nat.pow_mul, ← W32_pow] at this
  simp only [Option.bind_some]
  rw [w64_in (n := ((bitlen (val W32 l) : Nat) : Int) + 7) (by omega) (by omega), show ((bitlen (val W32 l) : Nat) : Int) + 7 = ((bitlen (val W32 l) + 7 : Nat) : Int) by omega, show (8 : Int) = ((8 : Nat) : Int) from rfl, i64_tdiv, w64_nat (by omega)]

theorem bitlen_val_le {l : List Nat} (hl : isW l) : bitlen (val W32 l) ≤ 32 * l.length := by
  refine bitlen_le.2 ?_
  have := val_lt hl
  rwa [W32_pow, ← Nat.pow_mul, ← W32_pow] at this

theorem nat_bytes_eq (l : List Nat) (hl : isW l) (hn : l.length ≤ 1000000) : F_nat_Bytes (numV .u32 l) = some (bytesV (be (val W32 l))) := by
  unfold F_nat_Bytes
  have := bitlen_val_le hl
  rw [nat_long_eq l hl hn]
  simp only [Option.bind_some]
  rw [nat_lay_eq l _ hl (by omega)]; rfl

/-! ### Reading -/

/-- So many words of a number, with noughts at the end. -/
def wordsN (n v : Nat) : List Nat := (List.range n).map fun q => v / W32 ^ q % W32
theorem wordsN_length (n v : Nat) : (wordsN n v).length = n := by simp [wordsN]
theorem wordsN_get {n v q : Nat} (h : q < n) : (wordsN n v).getD q 0 = v / W32 ^ q % W32 := by
  rw [List.getD_eq_getElem?_getD]; simp [wordsN, h]
theorem wordsN_isW (n v : Nat) : isW (wordsN n v) := fun d hd => by
  simp only [wordsN, List.mem_map] at hd
  obtain ⟨q, _, rfl⟩ := hd
  exact Nat.mod_lt _ (by decide)
theorem val_words (B n v : Nat) : val B ((List.range n).map fun q => v / B ^ q % B) = v % B ^ n := by
  induction n generalizing v with
  | zero => simp [val, Nat.mod_one]
  | succ n ih =>
    rw [List.range_succ_eq_map, List.map_cons, List.map_map]
    simp only [val, Nat.pow_zero, Nat.div_one]
    have : (List.range n).map ((fun q => v / B ^ q % B) ∘ Nat.succ) = (List.range n).map fun q => v / B / B ^ q % B := List.map_congr_left fun q _ => by
      simp only [Function.comp, Nat.succ_eq_add_one, Nat.pow_succ]
      rw [Nat.mul_comm (B ^ q) B, ← Nat.div_div_eq_div_mul]
    rw [this, ih, Nat.pow_succ, Nat.mul_comm (B ^ n), Nat.mod_mul]
theorem val_wordsN (n v : Nat) : val W32 (wordsN n v) = v % W32 ^ n := val_words W32 n v
theorem wordsN_set {n v v' q : Nat} (h : q < n) (h1 : ∀ j, j ≠ q → v' / W32 ^ j % W32 = v / W32 ^ j % W32) : (wordsN n v).set q (v' / W32 ^ q % W32) = wordsN n v' := by
  refine List.ext_getElem? fun j => ?_
  by_cases hj : j = q
  · subst hj
    rw [List.getElem?_set_self (by rw [wordsN_length]; exact h)]
    simp [wordsN, h]
  · rw [List.getElem?_set_ne (Ne.symm hj)]
    by_cases hjn : j < n
    · simp [wordsN, hjn, h1 j hj]
    · rw [List.getElem?_eq_none (by rw [wordsN_length]; omega), List.getElem?_eq_none (by rw [wordsN_length]; omega)]

/-- One byte below the bytes that a number has. -/
theorem words_add (v x k : Nat) (hv : 256 ^ (k + 1) ∣ v) (hx : x < 256) : (∀ j, j ≠ k / 4 → (v + x * 256 ^ k) / W32 ^ j % W32 = v / W32 ^ j % W32) ∧
    (v / W32 ^ (k / 4) % W32 ||| x * 2 ^ (8 * (k % 4)) % 2 ^ 32) = (v + x * 256 ^ k) / W32 ^ (k / 4) % W32 := by
  obtain ⟨c, rfl⟩ := hv
  obtain ⟨q, r, hr, rfl⟩ : ∃ q r, r < 4 ∧ k = 4 * q + r := ⟨k / 4, k % 4, Nat.mod_lt _ (by decide), (Nat.div_add_mod k 4).symm⟩
  have hq : (4 * q + r) / 4 = q := by omega
  have hr4 : (4 * q + r) % 4 = r := by omega
  rw [hq, hr4]
  have hp : ∀ m, (256 : Nat) ^ (4 * q + m) = W32 ^ q * 256 ^ m := fun m => by rw [Nat.pow_add, Nat.pow_mul]
  rw [show 4 * q + r + 1 = 4 * q + (r + 1) by omega, hp, hp]
  have e1 : W32 ^ q * 256 ^ (r + 1) * c + x * (W32 ^ q * 256 ^ r) = W32 ^ q * (256 ^ (r + 1) * c + x * 256 ^ r) := by rw [Nat.mul_add]; congr 1 <;> ac_rfl
  have e2 : W32 ^ q * 256 ^ (r + 1) * c = W32 ^ q * (256 ^ (r + 1) * c) := by ac_rfl
  rw [e1, e2]
  have hpos : ∀ j, 0 < W32 ^ j := fun j => Nat.pow_pos (by decide)
  have hsmall : x * 256 ^ r < W32 := by
    have : r = 0 ∨ r = 1 ∨ r = 2 ∨ r = 3 := by omega
    show x * 256 ^ r < 4294967296
    rcases this with rfl | rfl | rfl | rfl <;> simp only [Nat.reducePow] <;> omega
  have hsum : ∀ A, 256 ^ (r + 1) ∣ A → A / W32 = (A + x * 256 ^ r) / W32 ∧ (A % W32 ||| x * 256 ^ r) = (A + x * 256 ^ r) % W32 := by
    rintro A ⟨d, rfl⟩
    have hlt : x * 256 ^ r < 256 ^ (r + 1) := by rw [Nat.pow_succ, Nat.mul_comm (256 ^ r)]; exact Nat.mul_lt_mul_of_pos_right hx (Nat.pow_pos (by decide))
    have hdvd : ∃ e, W32 = 256 ^ (r + 1) * e := by
      have : r = 0 ∨ r = 1 ∨ r = 2 ∨ r = 3 := by omega
      rcases this with rfl | rfl | rfl | rfl
      · exact ⟨16777216, by decide⟩
      · exact ⟨65536, by decide⟩
      · exact ⟨256, by decide⟩
      · exact ⟨1, by decide⟩
    obtain ⟨e, he⟩ := hdvd
    have hB : 0 < 256 ^ (r + 1) := Nat.pow_pos (by decide)
    have hm : 256 ^ (r + 1) * d % W32 = 256 ^ (r + 1) * (d % e) := by rw [he, Nat.mul_mod_mul_left]
    have hepos : 0 < e := by rcases Nat.eq_zero_or_pos e with h | h; (subst h; rw [Nat.mul_zero] at he; exact absurd he (by decide)); exact h
    have hle : 256 ^ (r + 1) * (d % e) + 256 ^ (r + 1) ≤ W32 := by
      rw [he, ← Nat.mul_succ]; exact Nat.mul_le_mul_left _ (Nat.mod_lt _ hepos)
    have hlt2 : 256 ^ (r + 1) * d % W32 + x * 256 ^ r < W32 := by rw [hm]; omega
    have hd := Nat.div_add_mod (256 ^ (r + 1) * d) W32
    constructor
    · conv => rhs; rw [← hd, Nat.add_assoc, Nat.mul_add_div (by decide), Nat.div_eq_of_lt hlt2, Nat.add_zero]
    · conv => rhs; rw [← hd, Nat.add_assoc, Nat.mul_add_mod, Nat.mod_eq_of_lt hlt2]
      rw [hm]
      refine or_high (m := 8 * (r + 1)) ?_ ?_
      · rw [Nat.pow_mul]; exact Nat.dvd_mul_right _ _
      · rw [Nat.pow_mul]; exact hlt
  obtain ⟨s1, s2⟩ := hsum (256 ^ (r + 1) * c) (Nat.dvd_mul_right _ _)
  constructor
  · intro j hj
    rcases Nat.lt_or_gt_of_ne hj with h | h
    · obtain ⟨m, rfl⟩ : ∃ m, q = j + (m + 1) := ⟨q - j - 1, by omega⟩
      rw [Nat.pow_add, Nat.pow_succ]
      have : ∀ A, W32 ^ j * (W32 ^ m * W32) * A = W32 ^ j * (W32 * (W32 ^ m * A)) := fun A => by ac_rfl
      rw [this, this, Nat.mul_div_cancel_left _ (hpos j), Nat.mul_div_cancel_left _ (hpos j), Nat.mul_mod_right, Nat.mul_mod_right]
    · obtain ⟨m, rfl⟩ : ∃ m, j = q + (1 + m) := ⟨j - q - 1, by omega⟩
      have hj2 : ∀ A, W32 ^ q * A / W32 ^ (q + (1 + m)) = A / W32 / W32 ^ m := fun A => by
        rw [Nat.pow_add W32 q, ← Nat.div_div_eq_div_mul, Nat.mul_div_cancel_left _ (hpos q), Nat.pow_add W32 1, Nat.pow_one, ← Nat.div_div_eq_div_mul]
      rw [hj2, hj2, s1]
  · have hx2 : x * 2 ^ (8 * r) % 2 ^ 32 = x * 256 ^ r := by rw [Nat.pow_mul]; exact Nat.mod_eq_of_lt hsmall
    rw [Nat.mul_div_cancel_left _ (hpos q), Nat.mul_div_cancel_left _ (hpos q), ← s2, hx2]
end Go.Proofs.Ytffofdfikmpanaa.A

namespace Go.Proofs.Ytffofdfikmpanaa.A
set_option linter.unusedVariables false
set_option linter.unusedSimpArgs false
set_option maxRecDepth 10000

theorem wordsN_zero (n : Nat) : wordsN n 0 = List.replicate n 0 := by
  refine List.ext_getElem? fun i => ?_
  by_cases h : i < n <;> simp [wordsN, h]
theorem beval_take_succ {b : List UInt8} {i : Nat} (h : i < b.length) : beval (b.take (i + 1)) = beval (b.take i) * 256 + (b.getD i 0).toNat := by
  have : b.take (i + 1) = b.take i ++ [b.getD i 0] := by
    rw [List.take_add_one, List.getD_eq_getElem?_getD, List.getElem?_eq_getElem h]; rfl
  rw [this, beval_append]; simp [beval]

theorem nat_read_eq (b : List UInt8) (hn : b.length ≤ 1000000) : F_nat_Read (bytesV b) = some (numV .u32 (dig W32 (beval b))) := by
  unfold F_nat_Read
  simp only [decide_eq_true_eq, len_bytesV]
  have eL : w64 (Int.tdiv (w64 ((b.length : Int) + 3)) 4) = (((b.length + 3) / 4 : Nat) : Int) := by
    rw [w64_in (n := (b.length : Int) + 3) (by omega) (by omega), show (b.length : Int) + 3 = ((b.length + 3 : Nat) : Int) by omega, show (4 : Int) = ((4 : Nat) : Int) from rfl, i64_tdiv, w64_nat (by omega)]
  rw [eL, if_pos (by omega)]
  generalize hL : (b.length + 3) / 4 = L
  refine loopO_run (ι := Nat) (fun i => (bytesV b, numV .u32 (wordsN L (beval (b.take i) * 256 ^ (b.length - i))), bytesV b, (b.length : Int), (i : Int))) (fun _ => numV .u32 (dig W32 (beval b))) (fun i => i ≤ b.length) (fun i => b.length - i) ?_ 0 (Nat.zero_le _)
    |> (fun h => by rw [← h]; simp only [List.take_zero, beval_nil, Nat.zero_mul, wordsN_zero, numV_replicate, rep, Int.toNat_natCast]; rfl)
  intro i hi
  dsimp only
  by_cases h : i < b.length
  · left
    refine ⟨i + 1, ?_, h, by omega, rfl⟩
    have e1 : w64 (w64 ((b.length : Int) - 1) - (i : Int)) = ((b.length - 1 - i : Nat) : Int) := by rw [w64_in (n := (b.length : Int) - 1) (by omega) (by omega), w64_in (by omega) (by omega)]; omega
    rw [if_pos (by omega), if_pos (by omega), Int.toNat_natCast, bytesV_getD h]
    simp only [Option.bind_some, byteV_int, len_bytesV, e1]
    rw [show (4 : Int) = ((4 : Nat) : Int) from rfl, i64_tdiv, i64_tmod]
    generalize hk : b.length - 1 - i = k
    have e2 : w64 ((k / 4 : Nat) : Int) = ((k / 4 : Nat) : Int) := w64_nat (by omega)
    have e8 : w64 (8 * ((k % 4 : Nat) : Int)) = ((8 * (k % 4) : Nat) : Int) := w64_in (by omega) (by omega)
    have hkL : k / 4 < L := by omega
    simp only [e2, e8, len_numV, wordsN_length, Int.toNat_natCast, Nat.zero_add]
    rw [if_pos (by omega), numV_getD (by rw [wordsN_length]; exact hkL)]
    simp only [Option.bind_some, cells_int, List.getElem?_cons_zero, int?_int, storeEl_int]
    rw [if_neg (by omega), if_pos (by omega)]
    have e3 : w64 ((i : Int) + 1) = ((i + 1 : Nat) : Int) := w64_in (by omega) (by omega)
    rw [e3]
    have hx := u8_lt (b.getD i 0)
    generalize hxx : (b.getD i 0).toNat = x at hx
    have hv : beval (b.take (i + 1)) * 256 ^ (b.length - (i + 1)) = beval (b.take i) * 256 ^ (b.length - i) + x * 256 ^ k := by
      rw [beval_take_succ h, hxx, show b.length - i = k + 1 by omega, show b.length - (i + 1) = k by omega, Nat.pow_succ, Nat.add_mul, Nat.mul_assoc, Nat.mul_comm 256]
    rw [hv]
    obtain ⟨h1, h2⟩ := words_add (beval (b.take i) * 256 ^ (b.length - i)) x k (by rw [show b.length - i = k + 1 by omega]; exact Nat.dvd_mul_left _ _) hx
    rw [wu32_nat, Nat.mod_eq_of_lt (show x < 4294967296 by omega), wordShl_u32 _ _ (by omega), wordsN_get hkL, wordOr_u32 (Nat.mod_lt _ (by decide)) (Nat.mod_lt _ (by decide)), show 4294967296 = 2 ^ 32 from rfl, show 2 ^ 32 = W32 from rfl]
    rw [show (2 : Nat) ^ 32 = W32 from rfl] at h2
    rw [h2, numV_set, wordsN_set hkL h1]
  · right
    have : i = b.length := by omega
    subst this
    rw [if_neg (by omega), all_eq, Nat.sub_self, Nat.pow_zero, Nat.mul_one, List.take_length, nat_trim_eq _ (wordsN_isW _ _) (by rw [wordsN_length]; omega), val_wordsN, Nat.mod_eq_of_lt]
    · rfl
    · refine Nat.lt_of_lt_of_le (beval_lt b) ?_
      rw [show W32 = 256 ^ 4 by decide, ← Nat.pow_mul]
      exact Nat.pow_le_pow_right (by decide) (by omega)
end Go.Proofs.Ytffofdfikmpanaa.A

namespace Go.Proofs.Ytffofdfikmpanaa.A
set_option linter.unusedVariables false
set_option linter.unusedSimpArgs false
set_option maxRecDepth 10000

abbrev B16 : Nat := 65536
def isD (l : List Nat) : Prop := ∀ d ∈ l, d < B16
theorem isD_dig (n : Nat) : isD (dig B16 n) := dig_lt (by decide) n
theorem isD.getD {l : List Nat} (h : isD l) (i : Nat) : l.getD i 0 < B16 := by
  rw [List.getD_eq_getElem?_getD]
  cases hi : l[i]? with
  | none => exact (by decide)
  | some d => exact h d (List.mem_of_getElem? hi)

theorem r04_digit_eq (l : List Nat) (i : Nat) : F_affiantref04_digit (numV .u64 l, (i : Int)) = some ((l.getD i 0 : Nat) : Int) := by
  unfold F_affiantref04_digit
  simp only [decide_eq_true_eq, len_numV]
  by_cases h : i < l.length
  · rw [if_pos (by omega), if_pos (by omega), Int.toNat_natCast, numV_getD h]; simp
  · rw [if_neg (by omega), List.getD_eq_getElem?_getD, List.getElem?_eq_none (by omega)]; rfl

theorem r04_trim_eq (l : List Nat) (hl : isD l) (hn : l.length ≤ 1000000000) : F_affiantref04_trim (numV .u64 l) = some (numV .u64 (dig B16 (val B16 l))) := by
  unfold F_affiantref04_trim
  simp only [decide_eq_true_eq, len_numV]
  refine loopO_run (ι := Nat) (fun n => (numV .u64 l, (n : Int))) (fun _ => numV .u64 (dig B16 (val B16 l))) (fun n => n ≤ l.length ∧ ∀ i, n ≤ i → l.getD i 0 = 0) (fun n => n) ?_ l.length
    ⟨Nat.le_refl _, fun i hi => by rw [List.getD_eq_getElem?_getD, List.getElem?_eq_none hi]; rfl⟩
  rintro n ⟨h1, h2⟩
  dsimp only
  by_cases h0 : n = 0 ∨ l.getD (n - 1) 0 ≠ 0
  · right
    have hc : (if (n : Int) > 0 then if 0 ≤ w64 ((n : Int) - 1) then ((numV .u64 l)[Int.toNat (w64 ((n : Int) - 1))]?).bind fun v3 => (V.int? .u64 v3).bind fun v4 => some (v4 == 0) else none else some false : Option Bool) = some false := by
      rcases h0 with rfl | h0
      · rfl
      · have : 0 < n := by
          rcases Nat.eq_zero_or_pos n with rfl | h
          · exact absurd (h2 0 (Nat.le_refl _)) h0
          · exact h
        rw [if_pos (by omega), w64_in (by omega) (by omega), if_pos (by omega), show ((n : Int) - 1).toNat = n - 1 by omega, numV_getD (by omega)]
        simp only [Option.bind_some, int?_int]
        rw [show (((l.getD (n - 1) 0 : Nat) : Int) == 0) = false by simp only [beq_eq_false_iff_ne]; omega]
    rw [hc]
    simp only [Option.bind_some, Bool.false_eq_true, if_false]
    rw [if_pos (by omega)]
    simp only [numV_length, Int.toNat_natCast, true_and]
    rw [if_pos (by omega)]
    simp only [Option.bind_some, List.drop_zero]
    rw [dig_take (by decide) hl h1 h2 h0, numV_take]
  · left
    have h3 : 0 < n := by omega
    have h4 : l.getD (n - 1) 0 = 0 := by omega
    refine ⟨n - 1, ?_, ⟨by omega, fun i hi => ?_⟩, by omega, rfl⟩
    · rw [if_pos (by omega), w64_in (by omega) (by omega), if_pos (by omega), show ((n : Int) - 1).toNat = n - 1 by omega, numV_getD (by omega)]
      simp only [Option.bind_some, int?_int, h4]
      rw [if_pos (by rfl), show ((n : Int) - 1) = ((n - 1 : Nat) : Int) by omega]
    · by_cases hi2 : i = n - 1
      · rw [hi2, h4]
      · exact h2 i (by omega)

/-- The halves of words. -/
def halves (l : List Nat) : List Nat := l.flatMap fun w => [w % B16, w / B16]
theorem halves_length (l : List Nat) : (halves l).length = 2 * l.length := by
  induction l with
  | nil => rfl
  | cons w l ih => simp only [halves, List.flatMap_cons, List.length_append, List.length_cons, List.length_nil] at ih ⊢; omega
theorem halves_append (l m : List Nat) : halves (l ++ m) = halves l ++ halves m := by simp [halves]
theorem isD_halves {l : List Nat} (hl : isW l) : isD (halves l) := fun d hd => by
  simp only [halves, List.mem_flatMap] at hd
  obtain ⟨w, hw, hd⟩ := hd
  have := hl w hw
  have h2 : w < 4294967296 := this
  simp only [List.mem_cons, List.not_mem_nil, or_false] at hd
  rcases hd with rfl | rfl
  · exact Nat.mod_lt _ (by decide)
  · show w / 65536 < 65536; omega
theorem val_halves (l : List Nat) : val B16 (halves l) = val W32 l := by
  induction l with
  | nil => rfl
  | cons w l ih =>
    have : halves (w :: l) = [w % B16, w / B16] ++ halves l := rfl
    rw [this, val_append, ih]
    simp only [val, List.length_cons, List.length_nil]
    show w % 65536 + 65536 * (w / 65536 + 65536 * 0) + 65536 ^ (0 + 1 + 1) * val W32 l = w + 4294967296 * val W32 l
    omega

theorem take_snoc {l : List Nat} {i : Nat} (h : i < l.length) : l.take (i + 1) = l.take i ++ [l.getD i 0] := by
  rw [List.take_add_one, List.getD_eq_getElem?_getD, List.getElem?_eq_getElem h]; rfl

theorem r04_Digits_eq (l : List Nat) (hl : isW l) (hn : l.length ≤ 1000000) : F_affiantref04_Digits (numV .u32 l) = some (numV .u64 (dig B16 (val W32 l))) := by
  unfold F_affiantref04_Digits
  simp only [decide_eq_true_eq]
  refine loopO_run (ι := Nat) (fun i => (numV .u32 l, numV .u64 (halves (l.take i)), (i : Int))) (fun _ => numV .u64 (dig B16 (val W32 l))) (fun i => i ≤ l.length) (fun i => l.length - i) ?_ 0 (Nat.zero_le _)
  intro i hi
  dsimp only
  rw [len_numV]
  by_cases h : i < l.length
  · left
    refine ⟨i + 1, ?_, h, by omega, rfl⟩
    rw [if_pos (by omega), if_pos (by omega), Int.toNat_natCast, numV_getD h]
    simp only [Option.bind_some, int?_int, all_eq, numV_length, halves_length, List.length_take]
    rw [if_pos (by omega), if_pos (by omega)]
    have hw : l.getD i 0 < 4294967296 := hl.getD i
    rw [show (65536 : Int) = ((65536 : Nat) : Int) from rfl, i64_tmod, i64_tdiv, wu64_nat, wu32_nat, wu64_nat, take_snoc h, halves_append, numV_append, w64_in (by omega) (by omega),
      Nat.mod_eq_of_lt (a := l.getD i 0 / 65536) (by omega), Nat.mod_eq_of_lt (a := l.getD i 0 / 65536) (by omega), Nat.mod_eq_of_lt (a := l.getD i 0 % 65536) (by omega)]
    rfl
  · right
    have : i = l.length := by omega
    subst this
    rw [if_neg (by omega), all_eq, List.take_length, r04_trim_eq _ (isD_halves hl) (by rw [halves_length]; omega), val_halves]
    rfl

/-! ### Which one is greater -/

def cmpI (a b : Nat) : Int := if a < b then -1 else if b < a then 1 else 0
theorem cmpI_zero {a b : Nat} : cmpI a b = 0 ↔ a = b := by
  unfold cmpI; split
  · omega
  · split <;> omega

theorem r04_compare_eq (x y : List Nat) (hx : isD x) (hy : isD y) (hxn : x.length ≤ 1000000000) (hyn : y.length ≤ 1000000000) : F_affiantref04_compare (numV .u64 x, numV .u64 y) = some (cmpI (val B16 x) (val B16 y)) := by
  unfold F_affiantref04_compare
  simp only [decide_eq_true_eq]
  have hm : w64 (List.foldl (fun a b => if b > a then b else a) (len (numV .u64 x)) [len (numV .u64 y)] - 1) = ((max x.length y.length : Nat) : Int) - 1 := by
    simp only [len_numV, List.foldl]
    have h1 : (if (y.length : Int) > (x.length : Int) then (y.length : Int) else (x.length : Int)) = ((max x.length y.length : Nat) : Int) := by split <;> omega
    rw [h1, w64_in (by omega) (by omega)]
  rw [hm]
  refine loopO_run (ι := Nat) (fun n => (numV .u64 x, numV .u64 y, 0, (n : Int) - 1)) (fun _ => cmpI (val B16 x) (val B16 y)) (fun n => n ≤ max x.length y.length ∧ val B16 x / B16 ^ n = val B16 y / B16 ^ n) (fun n => n) ?_ (max x.length y.length) ⟨Nat.le_refl _, ?_⟩
  · rintro n ⟨h1, h2⟩
    dsimp only
    cases n with
    | zero =>
      right
      rw [if_neg (by omega)]
      simp only [Nat.pow_zero, Nat.div_one] at h2
      rw [cmpI_zero.2 h2]
    | succ n =>
      have e : (((n + 1 : Nat) : Int) - 1) = (n : Int) := by omega
      rw [if_pos (by omega), e, r04_digit_eq, r04_digit_eq]
      simp only [Option.bind_some]
      have dx := val_digit (B := B16) (k := n) (by decide) hx
      have dy := val_digit (B := B16) (k := n) (by decide) hy
      have sx : val B16 x / B16 ^ n = B16 * (val B16 x / B16 ^ (n + 1)) + x.getD n 0 := by
        rw [← dx, Nat.pow_succ, ← Nat.div_div_eq_div_mul]; exact (Nat.div_add_mod _ _).symm
      have sy : val B16 y / B16 ^ n = B16 * (val B16 x / B16 ^ (n + 1)) + y.getD n 0 := by
        rw [h2, ← dy, Nat.pow_succ, ← Nat.div_div_eq_div_mul]; exact (Nat.div_add_mod _ _).symm
      have hlt : ∀ {a b : Nat}, a / B16 ^ n < b / B16 ^ n → a < b := fun {a b} h => by
        rcases Nat.lt_or_ge a b with h3 | h3
        · exact h3
        · have := Nat.div_le_div_right (c := B16 ^ n) h3; omega
      by_cases c1 : x.getD n 0 < y.getD n 0
      · right
        rw [if_pos (by omega)]
        have := hlt (a := val B16 x) (b := val B16 y) (by rw [sx, sy]; omega)
        simp only [cmpI, if_pos this]
      · rw [if_neg (by omega)]
        by_cases c2 : y.getD n 0 < x.getD n 0
        · right
          rw [if_pos (by omega)]
          have := hlt (a := val B16 y) (b := val B16 x) (by rw [sx, sy]; omega)
          simp only [cmpI, if_neg (show ¬ val B16 x < val B16 y by omega), if_pos this]
        · left
          rw [if_neg (by omega)]
          refine ⟨n, ?_, ⟨by omega, by rw [sx, sy]; omega⟩, by omega, trivial⟩
          rw [w64_in (by omega) (by omega)]
  · have hz : ∀ {l : List Nat} {m : Nat}, isD l → l.length ≤ m → val B16 l / B16 ^ m = 0 := fun {l m} hl hm => by
      refine Nat.div_eq_of_lt (Nat.lt_of_lt_of_le (val_lt hl) (Nat.pow_le_pow_right (by decide) hm))
    rw [hz hx (by omega), hz hy (by omega)]

theorem dig_length_le {B n k : Nat} (hB : 2 ≤ B) (h : n < B ^ k) : (dig B n).length ≤ k := by
  induction k generalizing n with
  | zero => simp at h; subst h; simp [dig_zero]
  | succ k ih =>
    by_cases h0 : n = 0
    · subst h0; simp [dig_zero]
    · rw [dig_pos hB (by omega), List.length_cons]
      have := ih (n := n / B) (by rw [Nat.div_lt_iff_lt_mul (by omega)]; rwa [Nat.pow_succ] at h)
      omega
theorem dig16_length {l : List Nat} (hl : isW l) : (dig B16 (val W32 l)).length ≤ 2 * l.length := by
  refine dig_length_le (by decide) ?_
  have := val_lt hl
  rwa [show W32 = B16 ^ 2 by decide, ← Nat.pow_mul] at this

theorem r04_Cmp_eq (a b : List Nat) (ha : isW a) (hb : isW b) (han : a.length ≤ 1000000) (hbn : b.length ≤ 1000000) : F_affiantref04_Cmp (numV .u32 a, numV .u32 b) = some (cmpI (val W32 a) (val W32 b)) := by
  unfold F_affiantref04_Cmp
  dsimp only
  rw [r04_Digits_eq a ha han, r04_Digits_eq b hb hbn]
  simp only [Option.bind_some]
  have := dig16_length ha
  have := dig16_length hb
  rw [r04_compare_eq _ _ (isD_dig _) (isD_dig _) (by omega) (by omega), val_dig (by decide), val_dig (by decide)]
  rfl
end Go.Proofs.Ytffofdfikmpanaa.A

namespace Go.Proofs.Ytffofdfikmpanaa.A
set_option linter.unusedVariables false
set_option linter.unusedSimpArgs false
set_option maxRecDepth 10000

theorem cur_put_eq (b : List UInt8) (n w : Nat) (h1 : 1 ≤ w) (h8 : w ≤ 8) (hn : n < 256 ^ w) (hb : b.length ≤ 2000000000) : F_cursor_Put (bytesV b, (n : Int), (w : Int)) = some (bytesV (b ++ beN w n), 0) := by
  unfold F_cursor_Put
  simp only [decide_eq_true_eq, decide_eq_false_iff_not]
  rw [if_pos (by omega), if_pos (by omega)]
  have e8 : w64 (8 * (w : Int)) = ((8 * w : Nat) : Int) := by rw [w64_in (by omega) (by omega)]; omega
  have hc : (if (w : Int) < 8 then if w64 (8 * (w : Int)) < 0 then none else some (wordShr .u64 (n : Int) (w64 (8 * (w : Int))) != 0) else some false : Option Bool) = some false := by
    split
    · rw [e8, if_neg (by omega), wordShr_u64 _ _ (by omega), Nat.div_eq_of_lt (by rw [Nat.pow_mul]; exact hn)]; rfl
    · rfl
  rw [hc]
  simp only [Option.bind_some, Bool.false_eq_true, if_false, len_bytesV]
  have e1 : w64 ((b.length : Int) + (w : Int)) = ((b.length + w : Nat) : Int) := by rw [w64_in (by omega) (by omega)]; omega
  rw [e1, if_pos (by omega)]
  have h0 : List.take (min (List.length (rep (List.length (bytesV b)) (V.int .u8 0))) (List.length (bytesV b))) (bytesV b) ++ List.drop (0 + min (List.length (rep (List.length (bytesV b)) (V.int .u8 0))) (List.length (bytesV b))) (rep (List.length (bytesV b)) (V.int .u8 0)) = bytesV b := by
    simp only [rep, List.length_replicate, Nat.min_self, Nat.zero_add]
    rw [List.take_length, List.drop_of_length_le (by simp), List.append_nil]
  rw [h0]
  have e2 : w64 (8 * w64 ((w : Int) - 1)) = 8 * ((w : Int) - 1) := by rw [w64_in (n := (w : Int) - 1) (by omega) (by omega), w64_in (by omega) (by omega)]
  rw [e2]
  refine (congrArg (loopO _) ?_).trans (loopO_run (ι := Nat) (fun j => ((n : Int), bytesV (b ++ (beN w n).take j), 8 * ((w : Int) - 1 - (j : Int)))) (fun _ => (bytesV (b ++ beN w n), 0)) (fun j => j ≤ w) (fun j => w - j) ?_ 0 (Nat.zero_le _))
  · simp
  intro j hj
  dsimp only
  by_cases h : j < w
  · left
    refine ⟨j + 1, ?_, h, by omega, rfl⟩
    rw [if_pos (by omega), if_neg (by omega)]
    simp only [all_eq, bytesV_length, List.length_append, List.length_take, beN_length]
    rw [if_pos (by omega), show 8 * ((w : Int) - 1 - (j : Int)) = ((8 * (w - 1 - j) : Nat) : Int) by omega, wordShr_u64 _ _ (by omega), wu8_nat, byteV_of, Nat.pow_mul]
    have ht : (beN w n).take (j + 1) = (beN w n).take j ++ [UInt8.ofNat (n / 256 ^ (w - 1 - j))] := by
      rw [List.take_add_one, beN_get h]; rfl
    rw [ht, ← List.append_assoc, bytesV_append (b ++ _), w64_in (by omega) (by omega)]
    congr 5
    omega
  · right
    rw [if_neg (by omega), all_eq, List.take_of_length_le (by rw [beN_length]; omega)]

theorem cur_left_eq (b : List UInt8) (at_ : Nat) (h : at_ ≤ b.length) (hb : b.length ≤ 2000000000) : F_cursor_Cursor_Left (bytesV b, (at_ : Int)) = some (((b.length - at_ : Nat) : Int), bytesV b, (at_ : Int)) := by
  unfold F_cursor_Cursor_Left
  simp only [len_bytesV]
  rw [w64_in (by omega) (by omega), show (b.length : Int) - (at_ : Int) = ((b.length - at_ : Nat) : Int) by omega]

theorem cur_take_ok (b : List UInt8) (at_ n : Nat) (h : at_ + n ≤ b.length) (hb : b.length ≤ 2000000000) : F_cursor_Cursor_Take ((bytesV b, (at_ : Int)), (n : Int)) = some ((bytesV ((b.drop at_).take n), 0), (bytesV b, ((at_ + n : Nat) : Int)), ()) := by
  unfold F_cursor_Cursor_Take
  simp only [decide_eq_true_eq]
  rw [if_neg (by omega), cur_left_eq b at_ (by omega) hb]
  simp only [Option.bind_some]
  have e1 : w64 ((at_ : Int) + (n : Int)) = ((at_ + n : Nat) : Int) := by rw [w64_in (by omega) (by omega)]; omega
  rw [if_neg (by omega), if_pos (by omega), e1, if_pos (by omega)]
  simp only [Int.toNat_natCast, bytesV_length]
  rw [if_pos (by omega), bytesV_drop, bytesV_take, show at_ + n - at_ = n by omega, if_pos (by simp; omega)]
  simp only [Option.bind_some, all_eq]

theorem cur_take_short (b : List UInt8) (at_ n : Nat) (h0 : at_ ≤ b.length) (h : b.length < at_ + n) (hb : b.length ≤ 2000000000) : F_cursor_Cursor_Take ((bytesV b, (at_ : Int)), (n : Int)) = some ((bytesV [], 2), (bytesV b, (at_ : Int)), ()) := by
  unfold F_cursor_Cursor_Take
  simp only [decide_eq_true_eq]
  rw [if_neg (by omega), cur_left_eq b at_ (by omega) hb]
  simp only [Option.bind_some]
  rw [if_pos (by omega)]; rfl

theorem num_loop (l : List UInt8) (hl : l.length ≤ 8) (x : (List V × Int) × Unit) (e : Int) (f : List V × Int × (Nat × Nat) × Int × Int → Option ((List V × Int × (Nat × Nat) × Int × Int) ⊕ ((Int × Int) × ((List V × Int) × Unit))))
    (hf : ∀ (n : Nat) (j : Nat), f (bytesV l, (n : Int), (0, l.length), (l.length : Int), (j : Int)) = if (j : Int) < (l.length : Int) then if 0 ≤ (j : Int) ∧ (j : Int) < (l.length : Int) then ((bytesV l)[0 + (j : Int).toNat]?).bind fun v15 => ((V.cells v15)[0]?).bind fun v16 => (V.int? .u8 v16).bind fun v17 => some (.inl (bytesV l, wordOr .u64 (wordShl .u64 (n : Int) 8) (wu64 v17), (0, l.length), (l.length : Int), w64 ((j : Int) + 1))) else none else some (.inr (((n : Int), e), x))) :
    loopO f (bytesV l, 0, (0, l.length), (l.length : Int), 0) = some ((((beval l : Nat) : Int), e), x) := by
  refine loopO_run (ι := Nat) (fun j => (bytesV l, ((beval (l.take j) : Nat) : Int), (0, l.length), (l.length : Int), (j : Int))) (fun _ => ((((beval l : Nat) : Int), e), x)) (fun j => j ≤ l.length) (fun j => l.length - j) ?_ 0 (Nat.zero_le _)
  intro j hj
  rw [hf]
  by_cases h : j < l.length
  · left
    refine ⟨j + 1, ?_, h, by omega, rfl⟩
    rw [if_pos (by omega), if_pos (by omega), Int.toNat_natCast, Nat.zero_add, bytesV_getD h]
    simp only [Option.bind_some, byteV_cells, List.getElem?_cons_zero, byteV_int]
    have hlt := beval_lt (l.take j)
    rw [List.length_take, Nat.min_eq_left (by omega)] at hlt
    have h7 : beval (l.take j) < 256 ^ 7 := Nat.lt_of_lt_of_le hlt (Nat.pow_le_pow_right (by decide) (by omega))
    have hx := u8_lt (l.getD j 0)
    rw [show (8 : Int) = ((8 : Nat) : Int) from rfl, wordShl_u64 _ _ (by omega), wu64_nat, Nat.mod_eq_of_lt (a := beval (l.take j) * 2 ^ 8) (by omega), Nat.mod_eq_of_lt (a := (l.getD j 0).toNat) (by omega),
      wordOr_u64 (by omega) (by omega), or_high (m := 8) (Nat.dvd_mul_left _ _) (by omega), w64_in (by omega) (by omega), beval_take_succ h]
    rfl
  · right
    rw [if_neg (by omega), List.take_of_length_le (by omega)]

theorem cur_num_ok (b : List UInt8) (at_ w : Nat) (h1 : 1 ≤ w) (h8 : w ≤ 8) (h : at_ + w ≤ b.length) (hb : b.length ≤ 2000000000) :
    F_cursor_Cursor_Number ((bytesV b, (at_ : Int)), (w : Int)) = some ((((beval ((b.drop at_).take w) : Nat) : Int), 0), (bytesV b, ((at_ + w : Nat) : Int)), ()) := by
  unfold F_cursor_Cursor_Number
  simp only [decide_eq_true_eq, decide_eq_false_iff_not]
  rw [if_pos (by omega)]
  simp only [Option.bind_some, decide_eq_true_eq]
  rw [if_neg (by omega), cur_take_ok b at_ w h hb]
  simp only [Option.bind_some]
  have hl : ((b.drop at_).take w).length = w := by simp; omega
  have hl2 : List.length (bytesV ((b.drop at_).take w)) = ((b.drop at_).take w).length := bytesV_length _
  rw [hl2, len_bytesV]
  refine num_loop _ (by omega) _ 0 _ ?_
  intro n j
  rfl

theorem cur_num_short (b : List UInt8) (at_ w : Nat) (h1 : 1 ≤ w) (h8 : w ≤ 8) (h0 : at_ ≤ b.length) (h : b.length < at_ + w) (hb : b.length ≤ 2000000000) :
    F_cursor_Cursor_Number ((bytesV b, (at_ : Int)), (w : Int)) = some ((0, 2), (bytesV b, (at_ : Int)), ()) := by
  unfold F_cursor_Cursor_Number
  simp only [decide_eq_true_eq, decide_eq_false_iff_not]
  rw [if_pos (by omega)]
  simp only [Option.bind_some, decide_eq_true_eq]
  rw [if_neg (by omega), cur_take_short b at_ w h0 h hb]
  simp only [Option.bind_some]
  refine num_loop [] (by simp) _ 2 _ ?_
  intro n j
  rfl

theorem cur_rest_eq (b : List UInt8) (at_ : Nat) (h : at_ ≤ b.length) (hb : b.length ≤ 2000000000) : F_cursor_Cursor_Rest (bytesV b, (at_ : Int)) = some (bytesV (b.drop at_), bytesV b, (b.length : Int)) := by
  unfold F_cursor_Cursor_Rest
  dsimp only
  rw [cur_left_eq b at_ h hb]
  simp only [Option.bind_some]
  rw [cur_take_ok b at_ (b.length - at_) (by omega) hb]
  simp only [Option.bind_some, all_eq]
  rw [show at_ + (b.length - at_) = b.length by omega, List.take_of_length_le (by simp)]

theorem cur_over_eq (b : List UInt8) (hb : b.length ≤ 2000000000) : F_cursor_Over (bytesV b) = some (bytesV b, ((0 : Nat) : Int)) := by
  unfold F_cursor_Over
  rw [if_pos (by rw [bytesV_length]; omega)]; rfl
end Go.Proofs.Ytffofdfikmpanaa.A

namespace Go.Proofs.Ytffofdfikmpanaa.A
set_option linter.unusedVariables false
set_option linter.unusedSimpArgs false
set_option maxRecDepth 10000

/-- A number behind how many bits it has. -/
def mpiB (v : Nat) : List UInt8 := beN 2 (bitlen v) ++ be v
theorem be_length (v : Nat) : (be v).length = (bitlen v + 7) / 8 := beN_length _ _
theorem mpiB_length (v : Nat) : (mpiB v).length = 2 + (bitlen v + 7) / 8 := by simp [mpiB, beN_length, be_length]

theorem mpi_put_eq (b : List UInt8) (l : List Nat) (hl : isW l) (hn : l.length ≤ 1000000) (hb : b.length ≤ 1000000000) : F_mpi_Put (bytesV b, numV .u32 l) = some (if bitlen (val W32 l) ≤ 16384 then (bytesV (b ++ mpiB (val W32 l)), 0) else (nilV, 4)) := by
  unfold F_mpi_Put
  simp only [decide_eq_true_eq]
  rw [nat_bits_eq l hl hn]
  simp only [Option.bind_some]
  by_cases h : bitlen (val W32 l) ≤ 16384
  · rw [if_neg (by omega), if_pos h, wu64_nat, Nat.mod_eq_of_lt (by omega)]
    have := cur_put_eq b (bitlen (val W32 l)) 2 (by omega) (by omega) (by omega) (by omega)
    rw [show ((2 : Nat) : Int) = 2 from rfl] at this
    rw [this]
    simp only [Option.bind_some]
    rw [nat_bytes_eq l hl hn]
    simp only [Option.bind_some, all_eq, bytesV_length, List.length_append, beN_length, be_length]
    rw [if_pos (by omega), mpiB, ← List.append_assoc, bytesV_append (b ++ _)]
  · rw [if_pos (by omega), if_neg h]

/-- A number off bytes: its value, and what is left; or an error. -/
def mpiT (r : List UInt8) : Nat ⊕ (Nat × List UInt8) :=
  if r.length < 2 then .inl 2
  else if 16384 < beval (r.take 2) then .inl 4
  else if (r.drop 2).length < (beval (r.take 2) + 7) / 8 then .inl 2
  else if bitlen (beval ((r.drop 2).take ((beval (r.take 2) + 7) / 8))) ≠ beval (r.take 2) then .inl 3
  else .inr (beval ((r.drop 2).take ((beval (r.take 2) + 7) / 8)), (r.drop 2).drop ((beval (r.take 2) + 7) / 8))

theorem mpi_take_eq (b : List UInt8) (at_ : Nat) (h : at_ ≤ b.length) (hb : b.length ≤ 1000000) :
    (∃ e a, mpiT (b.drop at_) = .inl e ∧ e ≠ 0 ∧ a ≤ b.length ∧ F_mpi_take (bytesV b, (at_ : Int)) = some ((nilV, (e : Int)), bytesV b, ((a : Nat) : Int))) ∨
    (∃ v a, mpiT (b.drop at_) = .inr (v, b.drop a) ∧ a ≤ b.length ∧ at_ ≤ a ∧ F_mpi_take (bytesV b, (at_ : Int)) = some ((numV .u32 (dig W32 v), 0), bytesV b, ((a : Nat) : Int))) := by
  have hlen : (b.drop at_).length = b.length - at_ := by simp
  unfold F_mpi_take mpiT
  simp only [decide_eq_true_eq, bne_iff_ne, ne_eq, ite_not]
  by_cases h2 : b.length < at_ + 2
  · left
    refine ⟨2, at_, by rw [if_pos (by omega)], by decide, h, ?_⟩
    have := cur_num_short b at_ 2 (by omega) (by omega) h h2 (by omega)
    rw [show ((2 : Nat) : Int) = 2 from rfl] at this
    rw [this]
    simp only [Option.bind_some]
    rw [if_neg (by omega)]; rfl
  · have := cur_num_ok b at_ 2 (by omega) (by omega) (by omega) (by omega)
    rw [show ((2 : Nat) : Int) = 2 from rfl] at this
    rw [this]
    simp only [Option.bind_some, if_true]
    rw [if_neg (show ¬ (b.drop at_).length < 2 by omega)]
    generalize hn : beval ((b.drop at_).take 2) = n
    have hn2 : n < 65536 := by
      have := beval_lt ((b.drop at_).take 2)
      rw [hn] at this
      refine Nat.lt_of_lt_of_le this ?_
      refine Nat.le_trans (Nat.pow_le_pow_right (by decide) (by simp; omega : ((b.drop at_).take 2).length ≤ 2)) (by decide)
    by_cases h4 : 16384 < n
    · left
      refine ⟨4, at_ + 2, by rw [if_pos h4], by decide, by omega, ?_⟩
      rw [if_pos (by omega)]; rfl
    · rw [if_neg h4, if_neg (show ¬ ((n : Int) > 16384) by omega)]
      have e1 : w64 (Int.tdiv (w64 (w64 (n : Int) + 7)) 8) = (((n + 7) / 8 : Nat) : Int) := by
        rw [w64_nat (n := n) (by omega), w64_in (n := (n : Int) + 7) (by omega) (by omega), show (n : Int) + 7 = ((n + 7 : Nat) : Int) by omega, show (8 : Int) = ((8 : Nat) : Int) from rfl, i64_tdiv, w64_nat (by omega)]
      rw [e1, List.drop_drop]
      generalize hk : (n + 7) / 8 = k
      by_cases h5 : b.length < at_ + 2 + k
      · left
        refine ⟨2, at_ + 2, by rw [if_pos (by simp; omega)], by decide, by omega, ?_⟩
        rw [cur_take_short b (at_ + 2) k (by omega) h5 (by omega)]
        simp only [Option.bind_some]
        rw [if_neg (by omega)]; rfl
      · rw [cur_take_ok b (at_ + 2) k (by omega) (by omega), if_neg (show ¬ (b.drop (at_ + 2)).length < k by simp; omega)]
        simp only [Option.bind_some, all_eq, if_true]
        generalize hx : (b.drop (at_ + 2)).take k = x
        have hxl : x.length = k := by rw [← hx]; simp; omega
        rw [nat_read_eq x (by omega)]
        simp only [Option.bind_some]
        have hdl : (dig W32 (beval x)).length ≤ x.length := by
          refine dig_length_le (by decide) (Nat.lt_of_lt_of_le (beval_lt x) (Nat.pow_le_pow_left (by decide) _))
        rw [nat_bits_eq _ (isW_dig _) (by omega), val_dig (by decide)]
        simp only [Option.bind_some]
        rw [w64_nat (n := n) (by omega)]
        by_cases h3 : bitlen (beval x) = n
        · right
          refine ⟨beval x, at_ + 2 + k, ?_, by omega, by omega, ?_⟩
          · rw [if_pos h3, List.drop_drop]
          · rw [if_pos (by omega)]
        · left
          refine ⟨3, at_ + 2 + k, by rw [if_neg h3], by decide, by omega, ?_⟩
          rw [if_neg (by omega)]; rfl

/-- So many numbers. -/
def mpiAll : Nat → List UInt8 → Nat ⊕ List Nat
  | 0, r => if r = [] then .inr [] else .inl 3
  | n + 1, r => match mpiT r with
    | .inl e => .inl e
    | .inr (v, r') => match mpiAll n r' with
      | .inl e => .inl e
      | .inr l => .inr (v :: l)

/-- Numbers in a list. -/
def natsV (l : List Nat) : List V := l.map fun v => .sl false false 1 (numV .u32 (dig W32 v))
theorem natsV_append (l m : List Nat) : natsV (l ++ m) = natsV l ++ natsV m := by simp [natsV]
theorem natsV_length (l : List Nat) : (natsV l).length = l.length := by simp [natsV]

def allR (o : Nat ⊕ List Nat) : List V × Int := match o with
  | .inl e => (nilV, (e : Int))
  | .inr l => (natsV l, 0)

theorem mpi_all_eq (b : List UInt8) (n : Nat) (hn : n ≤ 10) (hb : b.length ≤ 1000000) : F_mpi_All (bytesV b, (n : Int)) = some (allR (mpiAll n b)) := by
  unfold F_mpi_All
  simp only [decide_eq_true_eq, decide_eq_false_iff_not]
  rw [if_pos (by omega)]
  simp only [Option.bind_some, decide_eq_true_eq]
  rw [if_neg (by omega), cur_over_eq b (by omega)]
  simp only [Option.bind_some]
  refine (congrArg (loopO _) ?_).trans (loopO_run (ι := List Nat × Nat × Nat) (fun i => (nilV, 0, (bytesV b, (i.2.1 : Int)), natsV i.1, (n : Int), (i.2.2 : Int)))
    (fun i => match mpiAll (n - i.2.2) (b.drop i.2.1) with | .inl e => (nilV, (e : Int)) | .inr l => (natsV (i.1 ++ l), 0)) (fun i => i.2.2 ≤ n ∧ i.2.1 ≤ b.length ∧ i.1.length = i.2.2) (fun i => n - i.2.2) ?_ ([], 0, 0) ⟨Nat.zero_le _, Nat.zero_le _, rfl⟩ |>.trans ?_)
  · rfl
  · rintro ⟨acc, at_, i⟩ ⟨h1, h2, h3⟩
    dsimp only at h1 h2 h3 ⊢
    by_cases h : i < n
    · rw [if_pos (by omega), show n - i = (n - i - 1) + 1 by omega, mpiAll]
      rcases mpi_take_eq b at_ h2 hb with ⟨e, a, g1, g2, g3, g4⟩ | ⟨v, a, g1, g2, g3, g4⟩
      · right
        rw [g4, g1]
        simp only [Option.bind_some, bne_iff_ne, ne_eq]
        rw [if_pos (by omega)]
      · left
        refine ⟨(acc ++ [v], a, i + 1), ?_, ⟨by dsimp only; omega, g2, by simp [h3]⟩, by dsimp only; omega, ?_⟩
        · rw [g4]
          simp only [Option.bind_some, bne_iff_ne, ne_eq, not_true_eq_false, if_false, all_eq, natsV_length]
          rw [if_pos (by omega), natsV_append, w64_in (by omega) (by omega)]
          rfl
        · dsimp only
          rw [g1, show n - (i + 1) = n - i - 1 by omega]
          dsimp only
          cases mpiAll (n - i - 1) (b.drop a) with
          | inl e => rfl
          | inr l => simp
    · right
      rw [if_neg (by omega), show n - i = 0 by omega, mpiAll, cur_left_eq b at_ h2 (by omega)]
      simp only [Option.bind_some, all_eq]
      by_cases he : b.drop at_ = []
      · have : (b.drop at_).length = 0 := by rw [he]; rfl
        rw [List.length_drop] at this
        rw [if_neg (by omega), if_pos he]
        simp
      · have : (b.drop at_).length ≠ 0 := fun h0 => he (List.eq_nil_of_length_eq_zero h0)
        rw [List.length_drop] at this
        rw [if_pos (by omega), if_neg he]
        rfl
  · dsimp only
    rw [Nat.sub_zero, List.drop_zero]
    cases mpiAll n b <;> simp [allR]

/-! There and back. -/
theorem mpiT_mpiB (v : Nat) (r : List UInt8) (h : bitlen v ≤ 16384) : mpiT (mpiB v ++ r) = .inr (v, r) := by
  have h2 : (mpiB v ++ r).take 2 = beN 2 (bitlen v) := by
    rw [mpiB, List.append_assoc]
    exact List.take_left' (beN_length _ _)
  have hd : (mpiB v ++ r).drop 2 = be v ++ r := by
    rw [mpiB, List.append_assoc]
    exact List.drop_left' (beN_length _ _)
  have hv : beval (beN 2 (bitlen v)) = bitlen v := by rw [beval_beN]; exact Nat.mod_eq_of_lt (by omega)
  unfold mpiT
  rw [h2, hd, hv]
  rw [if_neg (by simp [mpiB_length]; omega), if_neg (by omega), if_neg (by simp [be_length]), List.take_left' (be_length v), List.drop_left' (be_length v), beval_be]
  simp
end Go.Proofs.Ytffofdfikmpanaa.A

namespace Go.Proofs.Ytffofdfikmpanaa.A
set_option linter.unusedVariables false
set_option linter.unusedSimpArgs false
set_option maxRecDepth 10000

/-- A key. -/
structure KeyM where
  ver : Int
  cr : Nat
  alg : Int
  n : List Nat
  e : List Nat
  pt : List UInt8

/-- Bytes as an array's numbers. -/
def intB (l : List UInt8) : List Int := l.map fun b => (b.toNat : Int)
@[simp] theorem intB_length (l : List UInt8) : (intB l).length = l.length := by simp [intB]
theorem intB_getD (l : List UInt8) (i : Nat) : (intB l).getD i 0 = ((l.getD i 0).toNat : Int) := by
  simp only [intB, List.getD_eq_getElem?_getD, List.getElem?_map]
  cases l[i]? <;> rfl
theorem intB_inj {l m : List UInt8} (h : intB l = intB m) : l = m := by
  unfold intB at h
  refine List.map_inj_right (fun a b h => ?_) |>.1 h
  exact UInt8.toNat_inj.1 (by omega)
theorem fitI_intB {l : List UInt8} {n : Nat} (h : l.length = n) : fitI (intB l) 0 n = intB l := fitI_eq (by simpa using h)
theorem arrV_intB {l : List UInt8} {n : Nat} (h : l.length = n) : arrV .u8 (intB l) 0 n = bytesV l := by
  refine List.ext_getElem? fun i => ?_
  by_cases hi : i < n
  · rw [arrV_get hi, Nat.zero_add, intB_getD, bytesV_getD (by omega)]; rfl
  · rw [List.getElem?_eq_none (by rw [arrV_length]; omega), List.getElem?_eq_none (by rw [bytesV_length]; omega)]
theorem intsOf_bytesV {l : List UInt8} {n : Nat} (h : l.length = n) : intsOf .u8 n (bytesV l) = some (intB l) := by
  subst h
  induction l with
  | nil => rfl
  | cons b l ih => simp only [bytesV_cons, List.length_cons, intsOf, byteV, ih]; rfl

def KeyM.tup (k : KeyM) : Int × Int × Int × List V × List V × List Int := (k.ver, (k.cr : Int), k.alg, numV .u32 k.n, numV .u32 k.e, intB k.pt)
structure KeyM.Ok (k : KeyM) : Prop where
  v1 : -9223372036854775808 ≤ k.ver
  v2 : k.ver ≤ 9223372036854775807
  c : k.cr < 4294967296
  a1 : -9223372036854775808 ≤ k.alg
  a2 : k.alg ≤ 9223372036854775807
  n : isW k.n
  e : isW k.e
  nl : k.n.length ≤ 100000
  el : k.e.length ≤ 100000
  p : k.pt.length = 32

def KeyM.N (k : KeyM) : Nat := val W32 k.n
def KeyM.E (k : KeyM) : Nat := val W32 k.e
def zero32 : List UInt8 := List.replicate 32 0
theorem intB_zero : intB zero32 = rep 32 0 := by decide +kernel

def KeyM.may (k : KeyM) : Prop := (k.ver = 4 ∨ k.ver = 6) ∧ (k.alg = 1 ∧ k.pt = zero32 ∧ bitlen k.N ≤ 16384 ∧ bitlen k.E ≤ 16384 ∨ k.alg = 27 ∧ k.n = [] ∧ k.e = [])
instance (k : KeyM) : Decidable k.may := by unfold KeyM.may; infer_instance
def KeyM.mat (k : KeyM) : List UInt8 := if k.alg = 27 then k.pt else mpiB k.N ++ mpiB k.E
def KeyM.body (k : KeyM) : List UInt8 := [UInt8.ofNat k.ver.toNat] ++ beN 4 k.cr ++ [UInt8.ofNat k.alg.toNat] ++ (if k.ver = 6 then beN 4 k.mat.length else []) ++ k.mat

theorem key_short_eq (l : List Nat) (hl : isW l) (hn : l.length ≤ 1000000) : F_key_isShort (numV .u32 l) = some (decide (bitlen (val W32 l) ≤ 16384)) := by
  unfold F_key_isShort
  rw [nat_bits_eq l hl hn]
  simp only [Option.bind_some]
  refine congrArg some (decide_eq_decide.2 ?_)
  omega

theorem no_may {k : KeyM} (h : ¬ k.may) : (some false : Option Bool) = some (decide k.may) := by rw [decide_eq_false h]
theorem iff_may {k : KeyM} {p : Prop} [Decidable p] (h : p ↔ k.may) : (some (decide p) : Option Bool) = some (decide k.may) := by rw [decide_eq_decide.2 h]

theorem key_may_eq (k : KeyM) (h : k.Ok) : F_key_may k.tup = some (decide k.may) := by
  unfold F_key_may KeyM.tup
  simp only [fitI_intB h.p, bne_iff_ne, beq_iff_eq, len_numV]
  by_cases hv : k.ver = 4 ∨ k.ver = 6
  · have h0 : (if k.ver ≠ 4 then some (k.ver != 6) else some false : Option Bool) = some false := by
      rcases hv with h | h <;> simp [h]
    rw [h0]
    simp only [Option.bind_some, Bool.false_eq_true, if_false]
    by_cases h1 : k.alg = 1
    · rw [if_pos h1]
      by_cases hz : k.pt = zero32
      · rw [if_pos (by rw [hz, intB_zero]), key_short_eq _ h.n (by have := h.nl; omega), key_short_eq _ h.e (by have := h.el; omega)]
        simp only [Option.bind_some, decide_eq_true_eq]
        split
        · rename_i g
          refine iff_may ⟨fun q => ⟨hv, .inl ⟨h1, hz, g, q⟩⟩, ?_⟩
          rintro ⟨_, ⟨_, _, _, q⟩ | ⟨q, _⟩⟩
          · exact q
          · omega
        · rename_i g
          refine no_may ?_
          rintro ⟨_, ⟨_, _, q, _⟩ | ⟨q, _⟩⟩
          · exact g q
          · omega
      · rw [if_neg (fun g => hz (intB_inj (g.trans intB_zero.symm)))]
        simp only [Option.bind_some]
        refine no_may ?_
        rintro ⟨_, ⟨_, q, _⟩ | ⟨q, _⟩⟩
        · exact hz q
        · omega
    · rw [if_neg h1]
      by_cases h27 : k.alg = 27
      · rw [if_pos h27]
        split
        · rename_i g
          simp only [Option.bind_some]
          refine (congrArg some (show ((k.e.length : Int) == 0) = decide ((k.e.length : Int) = 0) from rfl)).trans (iff_may ⟨?_, ?_⟩)
          · exact fun q => ⟨hv, .inr ⟨h27, List.eq_nil_of_length_eq_zero (by omega), List.eq_nil_of_length_eq_zero (by omega)⟩⟩
          · rintro ⟨_, ⟨q, _⟩ | ⟨_, _, q⟩⟩
            · omega
            · rw [q]; rfl
        · rename_i g
          simp only [Option.bind_some]
          refine no_may ?_
          rintro ⟨_, ⟨q, _⟩ | ⟨_, q, _⟩⟩
          · omega
          · exact g (by rw [q]; rfl)
      · rw [if_neg h27]
        refine no_may ?_
        rintro ⟨_, ⟨q, _⟩ | ⟨q, _⟩⟩
        · exact h1 q
        · exact h27 q
  · have h0 : (if k.ver ≠ 4 then some (k.ver != 6) else some false : Option Bool) = some true := by
      rw [if_pos (fun g => hv (.inl g))]; simp only [Option.some.injEq, bne_iff_ne]; exact fun g => hv (.inr g)
    rw [h0]
    simp only [Option.bind_some, if_true]
    exact no_may fun g => hv g.1

theorem key_put_eq (b : List UInt8) (n w : Nat) (h1 : 1 ≤ w) (h8 : w ≤ 8) (hn : n < 256 ^ w) (hb : b.length ≤ 2000000000) (hn2 : n < 18446744073709551616) : F_key_put (bytesV b, (n : Int), (w : Int)) = some (bytesV (b ++ beN w n)) := by
  unfold F_key_put
  dsimp only
  rw [wu64_nat, Nat.mod_eq_of_lt hn2, cur_put_eq b n w h1 h8 hn hb]
  simp only [Option.bind_some, all_eq]

theorem KeyM.mat_length {k : KeyM} (h : k.Ok) (hm : k.may) : k.mat.length ≤ 4200 := by
  unfold KeyM.mat
  obtain ⟨_, ⟨h1, _, h2, h3⟩ | ⟨h1, _⟩⟩ := hm
  · rw [if_neg (by omega)]; simp only [List.length_append, mpiB_length]; omega
  · rw [if_pos h1, h.p]; omega

theorem key_material_eq (k : KeyM) (h : k.Ok) (hm : k.may) : F_key_material k.tup = some (bytesV k.mat) := by
  unfold F_key_material KeyM.tup
  simp only [beq_iff_eq, arrV_intB h.p]
  unfold KeyM.mat
  obtain ⟨_, ⟨h1, _, h2, h3⟩ | ⟨h1, _⟩⟩ := hm
  · rw [if_neg (by omega), if_neg (by omega)]
    have e1 := mpi_put_eq [] k.n h.n (by have := h.nl; omega) (by simp)
    rw [show val W32 k.n = k.N from rfl, if_pos h2] at e1
    rw [show (nilV, numV .u32 k.n) = (bytesV [], numV .u32 k.n) from rfl, e1]
    simp only [Option.bind_some, all_eq, List.nil_append]
    have e2 := mpi_put_eq (mpiB k.N) k.e h.e (by have := h.el; omega) (by rw [mpiB_length]; omega)
    rw [show val W32 k.e = k.E from rfl, if_pos h3] at e2
    rw [e2]
    simp only [Option.bind_some, all_eq]
  · rw [if_pos h1, if_pos h1]

theorem one_byte {v : Int} (h1 : 0 ≤ v) (h2 : v < 256) : V.int .u8 (wu8 v) = byteV (UInt8.ofNat v.toNat) := by
  obtain ⟨n, rfl⟩ := Int.eq_ofNat_of_zero_le h1
  rw [wu8_nat, byteV_of]; rfl

theorem key_emit_eq (k : KeyM) (h : k.Ok) : F_key_Emit k.tup = some (if k.may then (bytesV k.body, 0) else (nilV, 1)) := by
  have hmay := key_may_eq k h
  have hmat := key_material_eq k h
  unfold KeyM.tup at hmay hmat
  unfold F_key_Emit KeyM.tup
  simp only [fitI_intB h.p]
  rw [hmay]
  simp only [Option.bind_some, Bool.not_eq_true', decide_eq_false_iff_not, beq_iff_eq]
  by_cases hm : k.may
  · rw [if_neg (by simpa using hm), hmat hm, if_pos hm]
    simp only [Option.bind_some]
    have hl := KeyM.mat_length h hm
    have hv : 0 ≤ k.ver ∧ k.ver < 256 := by obtain ⟨h | h, _⟩ := hm <;> omega
    have ha : 0 ≤ k.alg ∧ k.alg < 256 := by obtain ⟨_, ⟨h, _⟩ | ⟨h, _⟩⟩ := hm <;> omega
    have hc := h.c
    rw [one_byte hv.1 hv.2, one_byte ha.1 ha.2, w64_nat (by omega)]
    have e1 := key_put_eq [UInt8.ofNat k.ver.toNat] k.cr 4 (by omega) (by omega) (by omega) (by simp) (by omega)
    rw [show ((4 : Nat) : Int) = 4 from rfl, show bytesV [UInt8.ofNat k.ver.toNat] = [byteV (UInt8.ofNat k.ver.toNat)] from rfl] at e1
    rw [e1]
    simp only [Option.bind_some, bytesV_length, List.length_append, List.length_cons, List.length_nil, beN_length, all_eq]
    rw [if_pos (by omega), show bytesV ([UInt8.ofNat k.ver.toNat] ++ beN 4 k.cr) ++ [byteV (UInt8.ofNat k.alg.toNat)] = bytesV ([UInt8.ofNat k.ver.toNat] ++ beN 4 k.cr ++ [UInt8.ofNat k.alg.toNat]) from (bytesV_append _ [_]).symm]
    by_cases h6 : k.ver = 6
    · rw [if_pos h6, len_bytesV]
      have e2 := key_put_eq ([UInt8.ofNat k.ver.toNat] ++ beN 4 k.cr ++ [UInt8.ofNat k.alg.toNat]) k.mat.length 4 (by omega) (by omega) (by omega) (by simp [beN_length]) (by omega)
      rw [show ((4 : Nat) : Int) = 4 from rfl] at e2
      rw [e2]
      simp only [Option.bind_some, bytesV_length, List.length_append, List.length_cons, List.length_nil, beN_length]
      rw [if_pos (by omega), ← bytesV_append]
      simp only [KeyM.body, if_pos h6]
    · rw [if_neg h6]
      simp only [Option.bind_some, bytesV_length, List.length_append, List.length_cons, List.length_nil, beN_length]
      rw [if_pos (by omega), ← bytesV_append]
      simp only [KeyM.body, if_neg h6, List.append_nil]
  · rw [if_pos (by simpa using hm), if_neg hm]

def KeyM.image (k : KeyM) : List UInt8 := if k.ver = 6 then [155] ++ beN 4 k.body.length ++ k.body else [153] ++ beN 2 k.body.length ++ k.body
theorem KeyM.body_length {k : KeyM} (h : k.Ok) (hm : k.may) : k.body.length ≤ 4300 := by
  have := KeyM.mat_length h hm
  unfold KeyM.body
  simp only [List.length_append, List.length_cons, List.length_nil, beN_length]
  split <;> simp [beN_length] <;> omega

theorem key_image_eq (k : KeyM) (h : k.Ok) : F_key_Image k.tup = some (if k.may then (bytesV k.image, 0) else (nilV, 1)) := by
  have hem := key_emit_eq k h
  unfold KeyM.tup at hem
  unfold F_key_Image KeyM.tup
  simp only [fitI_intB h.p]
  rw [hem]
  simp only [Option.bind_some, bne_iff_ne, ne_eq, beq_iff_eq]
  by_cases hm : k.may
  · have hl := KeyM.body_length h hm
    simp only [if_pos hm, not_true_eq_false, if_false, all_eq, len_bytesV, bytesV_length]
    unfold KeyM.image
    by_cases h6 : k.ver = 6
    · have e := key_put_eq [155] k.body.length 4 (by omega) (by omega) (by omega) (by simp) (by omega)
      rw [if_pos h6, if_pos h6, show [V.int .u8 155] = bytesV [155] from rfl, show (4 : Int) = ((4 : Nat) : Int) from rfl, e]
      simp only [Option.bind_some, bytesV_length, List.length_append, List.length_cons, List.length_nil, beN_length]
      rw [if_pos (by omega), ← bytesV_append]
    · have e := key_put_eq [153] k.body.length 2 (by omega) (by omega) (by omega) (by simp) (by omega)
      rw [if_neg h6, if_neg h6, show [V.int .u8 153] = bytesV [153] from rfl, show (2 : Int) = ((2 : Nat) : Int) from rfl, e]
      simp only [Option.bind_some, bytesV_length, List.length_append, List.length_cons, List.length_nil, beN_length]
      rw [if_pos (by omega), ← bytesV_append]
  · simp only [if_neg hm]
    rw [if_pos (by omega)]

end Go.Proofs.Ytffofdfikmpanaa.A

namespace Go.Proofs.Ytffofdfikmpanaa.A
set_option linter.unusedVariables false
set_option linter.unusedSimpArgs false
set_option maxRecDepth 10000

/-- A key's numbers of bytes. -/
def keyFill (ver : Int) (cr : Nat) (alg : Int) (m : List UInt8) : Nat ⊕ KeyM :=
  if alg = 27 then (if m.length = 32 then .inr ⟨ver, cr, alg, [], [], m⟩ else .inl 3)
  else match mpiAll 2 m with
    | .inl e => .inl e
    | .inr l => .inr ⟨ver, cr, alg, dig W32 (l.getD 0 0), dig W32 (l.getD 1 0), zero32⟩

/-- The key of bytes. -/
def keyParse (b : List UInt8) : Nat ⊕ KeyM :=
  if b.length < 1 then .inl 2
  else if beval (b.take 1) ≠ 4 ∧ beval (b.take 1) ≠ 6 then .inl 3
  else if b.length < 6 then .inl 2
  else if beval ((b.drop 5).take 1) ≠ 1 ∧ beval ((b.drop 5).take 1) ≠ 27 then .inl 9
  else if beval (b.take 1) ≠ 6 then keyFill (beval (b.take 1) : Nat) (beval ((b.drop 1).take 4)) (beval ((b.drop 5).take 1) : Nat) (b.drop 6)
  else if b.length < 10 then .inl 2
  else if beval ((b.drop 6).take 4) ≠ b.length - 10 then .inl 3
  else keyFill (beval (b.take 1) : Nat) (beval ((b.drop 1).take 4)) (beval ((b.drop 5).take 1) : Nat) (b.drop 10)

def zeroKey : KeyM := ⟨0, 0, 0, [], [], zero32⟩
def parseR (o : Nat ⊕ KeyM) : (Int × Int × Int × List V × List V × List Int) × Int := match o with
  | .inl e => (zeroKey.tup, (e : Int))
  | .inr k => (k.tup, 0)

theorem zeroKey_tup : zeroKey.tup = (0, 0, 0, nilV, nilV, rep 32 0) := by
  unfold KeyM.tup zeroKey
  rw [intB_zero]; rfl

theorem mpiAll_length : ∀ {n : Nat} {r : List UInt8} {l : List Nat}, mpiAll n r = .inr l → l.length = n
  | 0, r, l, h => by
    unfold mpiAll at h
    split at h <;> cases h
    rfl
  | n + 1, r, l, h => by
    unfold mpiAll at h
    split at h
    · cases h
    · split at h
      · cases h
      · rename_i h2
        cases h
        simp [mpiAll_length h2]

theorem key_fill_eq (ver : Int) (cr : Nat) (alg : Int) (m : List UInt8) (hm : m.length ≤ 1000000) : F_key_fill ((ver, (cr : Int), alg, nilV, nilV, rep 32 0), bytesV m) = some (parseR (keyFill ver cr alg m)) := by
  unfold F_key_fill keyFill
  simp only [beq_iff_eq, bne_iff_ne, len_bytesV, bytesV_length, ne_eq]
  by_cases ha : alg = 27
  · rw [if_pos ha, if_pos ha]
    by_cases hl : m.length = 32
    · rw [if_neg (by omega), if_pos (by omega), intsOf_bytesV hl, if_pos hl]
      simp only [Option.bind_some]
      (try rw [fitI_intB hl]); (try rw [fitI_intB hl]); rfl
    · rw [if_pos (by omega), if_neg hl]
      simp only [parseR, zeroKey_tup]; rfl
  · rw [if_neg ha, if_neg ha]
    have e := mpi_all_eq m 2 (by omega) hm
    rw [show ((2 : Nat) : Int) = 2 from rfl] at e
    rw [e]
    cases hq : mpiAll 2 m with
    | inl e =>
      simp only [allR, Option.bind_some]
      have he : e ≠ 0 := by
        intro h0
        subst h0
        have : ∀ (n : Nat) (r : List UInt8), mpiAll n r ≠ .inl 0 := by
          intro n
          induction n with
          | zero => intro r; unfold mpiAll; split <;> simp
          | succ n ih =>
            intro r
            unfold mpiAll
            split
            · rename_i e he
              unfold mpiT at he
              repeat' split at he
              all_goals first | (cases he; simp) | cases he
            · rename_i v r' _
              split
              · rename_i e he
                intro h
                cases h
                exact ih _ he
              · simp
        exact this _ _ hq
      rw [if_pos (by omega)]
      simp only [parseR, zeroKey_tup]
    | inr l =>
      have hl := mpiAll_length hq
      match l, hl with
      | [x, y], _ =>
        simp only [allR, Option.bind_some, natsV, List.map_cons, List.map_nil]
        rw [if_neg (by decide), if_pos ⟨by decide, by simp [len]⟩]
        simp only [List.getElem?_cons_zero, Option.bind_some]
        rw [show (V.sl false false 1 (numV .u32 (dig W32 x))).cells = [V.sl false false 1 (numV .u32 (dig W32 x))] from rfl]
        simp only [List.getElem?_cons_zero, Option.bind_some, V.lst?, and_self, if_true]
        rw [if_pos ⟨by decide, by simp [len]⟩]
        simp only [List.getElem?_cons_zero, List.getElem?_cons_succ, Option.bind_some]
        rw [show (V.sl false false 1 (numV .u32 (dig W32 y))).cells = [V.sl false false 1 (numV .u32 (dig W32 y))] from rfl]
        simp only [List.getElem?_cons_zero, Option.bind_some, and_self, if_true]
        have hf : fitI (rep 32 0) 0 32 = intB zero32 := by rw [intB_zero]; decide +kernel
        rw [hf]
        rfl

theorem beval1_lt (b : List UInt8) (k : Nat) : beval (b.take k) < 256 ^ k := by
  have := beval_lt (b.take k)
  refine Nat.lt_of_lt_of_le this (Nat.pow_le_pow_right (by decide) ?_)
  simp; omega

theorem key_size_eq (b : List UInt8) (at_ : Nat) (v : Int) (h : at_ ≤ b.length) (hb : b.length ≤ 1000000) :
    ∃ a, a ≤ b.length ∧ F_key_size ((bytesV b, (at_ : Int)), v) = some (((if v ≠ 6 then 0 else if b.length < at_ + 4 then 2 else if beval ((b.drop at_).take 4) ≠ b.length - (at_ + 4) then 3 else 0 : Nat) : Int), (bytesV b, (a : Int)), ()) ∧
      (v = 6 → at_ + 4 ≤ b.length → a = at_ + 4) ∧ (v ≠ 6 → a = at_) := by
  unfold F_key_size
  simp only [bne_iff_ne, ne_eq, beq_iff_eq]
  by_cases h6 : v = 6
  · by_cases hs : b.length < at_ + 4
    · refine ⟨at_, h, ?_, by omega, by omega⟩
      have e := cur_num_short b at_ 4 (by omega) (by omega) h hs (by omega)
      rw [show ((4 : Nat) : Int) = 4 from rfl] at e
      rw [if_neg (by omega), e, if_neg (by omega), if_pos hs]
      simp only [Option.bind_some]
      rw [if_neg (by omega)]; rfl
    · refine ⟨at_ + 4, by omega, ?_, by omega, by omega⟩
      have e := cur_num_ok b at_ 4 (by omega) (by omega) (by omega) (by omega)
      rw [show ((4 : Nat) : Int) = 4 from rfl] at e
      rw [if_neg (by omega), e, if_neg (by omega), if_neg hs]
      simp only [Option.bind_some, if_true]
      rw [cur_left_eq b (at_ + 4) (by omega) (by omega)]
      simp only [Option.bind_some]
      rw [wu64_nat, Nat.mod_eq_of_lt (by omega)]
      by_cases hn : beval ((b.drop at_).take 4) = b.length - (at_ + 4)
      · rw [if_neg (by rw [hn]; simp), if_neg (by simpa using hn)]; rfl
      · rw [if_pos (by omega), if_pos hn]; rfl
  · refine ⟨at_, h, ?_, by omega, by omega⟩
    rw [if_pos h6, if_pos h6]; rfl

theorem key_parse_eq (b : List UInt8) (hb : b.length ≤ 1000000) : F_key_Parse (bytesV b) = some (parseR (keyParse b)) := by
  unfold F_key_Parse keyParse
  rw [cur_over_eq b (by omega)]
  simp only [Option.bind_some, bne_iff_ne, ne_eq]
  by_cases h1 : b.length < 1
  · have e := cur_num_short b 0 1 (by omega) (by omega) (by omega) (by omega) (by omega)
    rw [show ((1 : Nat) : Int) = 1 from rfl] at e
    rw [e, if_pos h1]
    simp only [Option.bind_some]
    rw [if_pos (by decide)]
    simp only [parseR, zeroKey_tup]; rfl
  · have e := cur_num_ok b 0 1 (by omega) (by omega) (by omega) (by omega)
    rw [show ((1 : Nat) : Int) = 1 from rfl] at e
    rw [e, if_neg h1, List.drop_zero]
    simp only [Option.bind_some, not_true_eq_false, if_false]
    generalize hv : beval (b.take 1) = v
    have hv1 : v < 256 := by have := beval1_lt b 1; rw [hv] at this; exact this
    by_cases h2 : v ≠ 4 ∧ v ≠ 6
    · have hc : (if ¬ ((v : Int) = 4) then some ((v : Int) != 6) else some false : Option Bool) = some true := by
        rw [if_pos (by omega)]; simp only [Option.some.injEq, bne_iff_ne]; omega
      rw [hc, if_pos h2]
      simp only [Option.bind_some, if_true, parseR, zeroKey_tup]; rfl
    · have hc : (if ¬ ((v : Int) = 4) then some ((v : Int) != 6) else some false : Option Bool) = some false := by
        split
        · rw [show ((v : Int) != 6) = false by simp only [bne_eq_false_iff_eq]; omega]
        · rfl
      rw [hc, if_neg h2]
      simp only [Option.bind_some, Bool.false_eq_true, if_false]
      by_cases h5 : b.length < 5
      · have e := cur_num_short b 1 4 (by omega) (by omega) (by omega) (by omega) (by omega)
        rw [show ((1 : Nat) : Int) = 1 from rfl, show ((4 : Nat) : Int) = 4 from rfl] at e
        rw [e, if_pos (by omega)]
        simp only [Option.bind_some]
        rw [if_pos (by decide)]
        simp only [parseR, zeroKey_tup]; rfl
      · have e := cur_num_ok b 1 4 (by omega) (by omega) (by omega) (by omega)
        rw [show ((1 : Nat) : Int) = 1 from rfl, show ((4 : Nat) : Int) = 4 from rfl] at e
        rw [e]
        simp only [Option.bind_some, not_true_eq_false, if_false]
        generalize hcr : beval ((b.drop 1).take 4) = cr
        have hcr1 : cr < 4294967296 := by have := beval1_lt (b.drop 1) 4; rw [hcr] at this; exact this
        by_cases h6 : b.length < 6
        · have e := cur_num_short b 5 1 (by omega) (by omega) (by omega) (by omega) (by omega)
          rw [show ((1 : Nat) : Int) = 1 from rfl] at e
          rw [show (1 + 4 : Nat) = 5 from rfl, e, if_pos h6]
          simp only [Option.bind_some]
          rw [if_pos (by decide)]
          simp only [parseR, zeroKey_tup]; rfl
        · have e := cur_num_ok b 5 1 (by omega) (by omega) (by omega) (by omega)
          rw [show ((1 : Nat) : Int) = 1 from rfl] at e
          rw [show (1 + 4 : Nat) = 5 from rfl, e, if_neg h6]
          simp only [Option.bind_some, not_true_eq_false, if_false]
          generalize ha : beval ((b.drop 5).take 1) = a
          have ha1 : a < 256 := by have := beval1_lt (b.drop 5) 1; rw [ha] at this; exact this
          rw [w64_nat (n := a) (by omega), w64_nat (n := v) (by omega), wu32_nat, Nat.mod_eq_of_lt hcr1]
          by_cases h9 : a ≠ 1 ∧ a ≠ 27
          · have hc : (if ¬ ((a : Int) = 1) then some ((a : Int) != 27) else some false : Option Bool) = some true := by
              rw [if_pos (by omega)]; simp only [Option.some.injEq, bne_iff_ne]; omega
            rw [hc, if_pos h9]
            simp only [Option.bind_some, if_true, parseR, zeroKey_tup]; rfl
          · have hc : (if ¬ ((a : Int) = 1) then some ((a : Int) != 27) else some false : Option Bool) = some false := by
              split
              · rw [show ((a : Int) != 27) = false by simp only [bne_eq_false_iff_eq]; omega]
              · rfl
            rw [hc, if_neg h9]
            simp only [Option.bind_some, Bool.false_eq_true, if_false]
            obtain ⟨at2, g1, g2, g3, g4⟩ := key_size_eq b 6 (v : Int) (by omega) hb
            rw [show (5 + 1 : Nat) = 6 from rfl, g2]
            simp only [Option.bind_some]
            by_cases hv6 : v = 6
            · rw [if_neg (show ¬ ((v : Int) ≠ 6) by omega), if_neg (show ¬ (v ≠ 6) by omega)]
              by_cases h10 : b.length < 10
              · rw [if_pos (show b.length < 6 + 4 by omega), if_pos h10, if_pos (by decide)]
                simp only [parseR, zeroKey_tup]
              · rw [if_neg (show ¬ b.length < 6 + 4 by omega), if_neg h10]
                by_cases hs : beval ((b.drop 6).take 4) = b.length - 10
                · rw [if_neg (show ¬ (beval ((b.drop 6).take 4) ≠ b.length - (6 + 4)) by simpa using hs), if_neg (show ¬ ¬ (beval ((b.drop 6).take 4) = b.length - 10) by simpa using hs)]
                  rw [if_neg (by decide), cur_rest_eq b at2 g1 (by omega), g3 (by omega) (by omega)]
                  simp only [Option.bind_some, all_eq]
                  rw [key_fill_eq _ _ _ _ (by simp; omega)]
                  simp only [Option.bind_some]
                  have hf : ∀ (o : Nat ⊕ KeyM) , (∀ k, o = .inr k → k.pt.length = 32) → ((parseR o).1.1, (parseR o).1.2.1, (parseR o).1.2.2.1, (parseR o).1.2.2.2.1, (parseR o).1.2.2.2.2.1, fitI (parseR o).1.2.2.2.2.2 0 32) = (parseR o).1 := by
                    intro o ho
                    cases o with
                    | inl e => simp only [parseR, KeyM.tup]; rw [fitI_intB (by decide)]
                    | inr k => simp only [parseR, KeyM.tup]; rw [fitI_intB (ho k rfl)]
                  rw [hf]
                  · intro k hk
                    unfold keyFill at hk
                    split at hk
                    · split at hk
                      · cases hk; assumption
                      · cases hk
                    · split at hk
                      · cases hk
                      · cases hk; rfl
                · rw [if_pos (show (beval ((b.drop 6).take 4) ≠ b.length - (6 + 4)) by simpa using hs), if_pos (show ¬ (beval ((b.drop 6).take 4) = b.length - 10) by simpa using hs), if_pos (by decide)]
                  simp only [parseR, zeroKey_tup]
            · rw [if_pos (show (v : Int) ≠ 6 by omega), if_pos hv6, if_neg (by decide), cur_rest_eq b at2 g1 (by omega), g4 (by omega)]
              simp only [Option.bind_some, all_eq]
              rw [key_fill_eq _ _ _ _ (by simp; omega)]
              simp only [Option.bind_some]
              have hf : ∀ (o : Nat ⊕ KeyM) , (∀ k, o = .inr k → k.pt.length = 32) → ((parseR o).1.1, (parseR o).1.2.1, (parseR o).1.2.2.1, (parseR o).1.2.2.2.1, (parseR o).1.2.2.2.2.1, fitI (parseR o).1.2.2.2.2.2 0 32) = (parseR o).1 := by
                intro o ho
                cases o with
                | inl e => simp only [parseR, KeyM.tup]; rw [fitI_intB (by decide)]
                | inr k => simp only [parseR, KeyM.tup]; rw [fitI_intB (ho k rfl)]
              rw [hf]
              · intro k hk
                unfold keyFill at hk
                split at hk
                · split at hk
                  · cases hk; assumption
                  · cases hk
                · split at hk
                  · cases hk
                  · cases hk; rfl
end Go.Proofs.Ytffofdfikmpanaa.A

namespace Go.Proofs.Ytffofdfikmpanaa.A
set_option linter.unusedVariables false
set_option linter.unusedSimpArgs false
set_option maxRecDepth 10000

theorem beval_one (b : UInt8) : beval [b] = b.toNat := by simp [beval]

theorem keyParse_parts (x a : UInt8) (c t : List UInt8) (hc : c.length = 4) : keyParse (x :: (c ++ a :: t)) =
    if x.toNat ≠ 4 ∧ x.toNat ≠ 6 then .inl 3 else if a.toNat ≠ 1 ∧ a.toNat ≠ 27 then .inl 9
    else if x.toNat ≠ 6 then keyFill (x.toNat : Nat) (beval c) (a.toNat : Nat) t
    else if t.length < 4 then .inl 2 else if beval (t.take 4) ≠ t.length - 4 then .inl 3 else keyFill (x.toNat : Nat) (beval c) (a.toNat : Nat) (t.drop 4) := by
  match c, hc with
  | [c1, c2, c3, c4], _ =>
    unfold keyParse
    simp only [List.cons_append, List.nil_append, List.length_cons, List.take_succ_cons, List.take_zero, List.drop_succ_cons, List.drop_zero, beval_one]
    rw [if_neg (by omega)]
    split
    · rfl
    · rw [if_neg (by omega)]
      split
      · rfl
      · split
        · rfl
        · by_cases h : t.length < 4
          · rw [if_pos (by omega), if_pos h]
          · rw [if_neg (by omega), if_neg h]
            rw [show t.length + 1 + 1 + 1 + 1 + 1 + 1 - 10 = t.length - 4 by omega]

theorem KeyM.body_parts (k : KeyM) : k.body = UInt8.ofNat k.ver.toNat :: (beN 4 k.cr ++ UInt8.ofNat k.alg.toNat :: ((if k.ver = 6 then beN 4 k.mat.length else []) ++ k.mat)) := by
  simp [KeyM.body]

/-- The key that is parsed again. -/
def KeyM.norm (k : KeyM) : KeyM := if k.alg = 27 then k else { k with n := dig W32 k.N, e := dig W32 k.E }

theorem small_nat {v : Int} {c : Nat} (h : v = (c : Int)) (hc : c < 256) : (UInt8.ofNat v.toNat).toNat = c := by
  subst h; rw [Int.toNat_natCast, UInt8.toNat_ofNat']; omega

theorem mpiAll_two (a b : Nat) (r : List UInt8) (ha : bitlen a ≤ 16384) (hb : bitlen b ≤ 16384) : mpiAll 2 (mpiB a ++ mpiB b ++ r) = if r = [] then .inr [a, b] else .inl 3 := by
  rw [List.append_assoc]
  simp only [mpiAll, mpiT_mpiB _ _ ha, mpiT_mpiB _ _ hb]
  by_cases h : r = [] <;> simp [h]

theorem mpiT_short (v : Nat) (h : bitlen v ≤ 16384) : mpiT ((mpiB v).take ((mpiB v).length - 1)) = .inl 2 := by
  unfold mpiT
  rw [mpiB_length]
  have hl : ((mpiB v).take (2 + (bitlen v + 7) / 8 - 1)).length = 2 + (bitlen v + 7) / 8 - 1 := by rw [List.length_take, mpiB_length]; omega
  by_cases h0 : (bitlen v + 7) / 8 = 0
  · rw [if_pos (by rw [hl]; omega)]
  · rw [if_neg (by rw [hl]; omega)]
    have h2 : ((mpiB v).take (2 + (bitlen v + 7) / 8 - 1)).take 2 = beN 2 (bitlen v) := by
      rw [List.take_take, Nat.min_eq_left (by omega), mpiB, List.take_left' (beN_length _ _)]
    have hv : beval (beN 2 (bitlen v)) = bitlen v := by rw [beval_beN]; exact Nat.mod_eq_of_lt (by omega)
    rw [h2, hv, if_neg (by omega), if_pos (by rw [List.length_drop, hl]; omega)]

theorem mpiAll_short (a b : Nat) (ha : bitlen a ≤ 16384) (hb : bitlen b ≤ 16384) : mpiAll 2 (mpiB a ++ (mpiB b).take ((mpiB b).length - 1)) = .inl 2 := by
  simp only [mpiAll, mpiT_mpiB _ _ ha, mpiT_short _ hb]

theorem KeyM.mat_rsa {k : KeyM} (h : k.alg = 1) : k.mat = mpiB k.N ++ mpiB k.E := by unfold KeyM.mat; rw [if_neg (by omega)]
theorem KeyM.mat_curve {k : KeyM} (h : k.alg = 27) : k.mat = k.pt := by unfold KeyM.mat; rw [if_pos h]

theorem fill_back (k : KeyM) (h : k.Ok) (hm : k.may) : keyFill k.ver k.cr k.alg k.mat = .inr k.norm := by
  unfold keyFill KeyM.norm
  obtain ⟨_, ⟨h1, h4, h2, h3⟩ | ⟨h1, h5, h6⟩⟩ := hm
  · rw [if_neg (by omega), if_neg (by omega), KeyM.mat_rsa h1]
    have := mpiAll_two k.N k.E [] h2 h3
    rw [List.append_nil, if_pos rfl] at this
    rw [this]
    obtain ⟨ver, cr, alg, n, e, pt⟩ := k
    simp only at h4 ⊢
    rw [h4]; rfl
  · rw [if_pos h1, if_pos h1, KeyM.mat_curve h1, if_pos h.p]
    obtain ⟨ver, cr, alg, n, e, pt⟩ := k
    simp only at h5 h6 ⊢
    rw [h5, h6]
theorem fill_more (k : KeyM) (h : k.Ok) (hm : k.may) : keyFill k.ver k.cr k.alg (k.mat ++ [0]) = .inl 3 := by
  unfold keyFill
  obtain ⟨_, ⟨h1, h4, h2, h3⟩ | ⟨h1, h5, h6⟩⟩ := hm
  · rw [if_neg (by omega), KeyM.mat_rsa h1, mpiAll_two _ _ _ h2 h3, if_neg (by simp)]
  · rw [if_pos h1, KeyM.mat_curve h1, if_neg (by simp [h.p])]
theorem KeyM.mat_pos {k : KeyM} (h : k.Ok) (hm : k.may) : 0 < k.mat.length := by
  obtain ⟨_, ⟨h1, h4, h2, h3⟩ | ⟨h1, h5, h6⟩⟩ := hm
  · rw [KeyM.mat_rsa h1]; simp only [List.length_append, mpiB_length]; omega
  · rw [KeyM.mat_curve h1, h.p]; omega
theorem fill_less (k : KeyM) (h : k.Ok) (hm : k.may) : ∃ e, e ≠ 0 ∧ keyFill k.ver k.cr k.alg (k.mat.take (k.mat.length - 1)) = .inl e := by
  unfold keyFill
  obtain ⟨_, ⟨h1, h4, h2, h3⟩ | ⟨h1, h5, h6⟩⟩ := hm
  · refine ⟨2, by decide, ?_⟩
    rw [if_neg (by omega), KeyM.mat_rsa h1]
    have hl := mpiB_length k.E
    have : (mpiB k.N ++ mpiB k.E).take ((mpiB k.N ++ mpiB k.E).length - 1) = mpiB k.N ++ (mpiB k.E).take ((mpiB k.E).length - 1) := by
      rw [List.length_append, show (mpiB k.N).length + (mpiB k.E).length - 1 = (mpiB k.N).length + ((mpiB k.E).length - 1) by omega, List.take_length_add_append]
    rw [this, mpiAll_short _ _ h2 h3]
  · refine ⟨3, by decide, ?_⟩
    rw [if_pos h1, KeyM.mat_curve h1, if_neg (by rw [List.length_take, h.p]; omega)]

theorem parse_tail (k : KeyM) (h : k.Ok) (hm : k.may) (t : List UInt8) : keyParse (UInt8.ofNat k.ver.toNat :: (beN 4 k.cr ++ UInt8.ofNat k.alg.toNat :: t)) =
    if k.ver ≠ 6 then keyFill k.ver k.cr k.alg t else if t.length < 4 then .inl 2 else if beval (t.take 4) ≠ t.length - 4 then .inl 3 else keyFill k.ver k.cr k.alg (t.drop 4) := by
  rw [keyParse_parts _ _ _ _ (beN_length _ _)]
  have hc : beval (beN 4 k.cr) = k.cr := by rw [beval_beN]; exact Nat.mod_eq_of_lt h.c
  rw [hc]
  have ha : k.alg = ((if k.alg = 1 then 1 else 27 : Nat) : Int) := by
    obtain ⟨_, ⟨h, _⟩ | ⟨h, _⟩⟩ := hm
    · rw [if_pos h, h]; rfl
    · rw [if_neg (by omega), h]; rfl
  have hv : k.ver = ((if k.ver = 4 then 4 else 6 : Nat) : Int) := by
    obtain ⟨h | h, _⟩ := hm
    · rw [if_pos h, h]; rfl
    · rw [if_neg (by omega), h]; rfl
  have ha2 := small_nat ha (by split <;> omega)
  have hv2 := small_nat hv (by split <;> omega)
  rw [ha2, hv2, if_neg (by split <;> omega), if_neg (by split <;> omega), ← ha, ← hv]
  by_cases h6 : k.ver = 6
  · rw [if_neg (show ¬ ((if k.ver = 4 then 4 else 6 : Nat) ≠ 6) by rw [if_neg (by omega)]; simp), if_neg (show ¬ (k.ver ≠ 6) by simpa using h6)]
  · have h4 : k.ver = 4 := by obtain ⟨h | h, _⟩ := hm <;> omega
    rw [if_pos (show (if k.ver = 4 then 4 else 6 : Nat) ≠ 6 by rw [if_pos h4]; decide), if_pos h6]

theorem parse_back (k : KeyM) (h : k.Ok) (hm : k.may) : keyParse k.body = .inr k.norm := by
  have hl := KeyM.mat_length h hm
  rw [KeyM.body_parts, parse_tail k h hm]
  by_cases h6 : k.ver = 6
  · rw [if_neg (by simpa using h6), if_pos h6, if_neg (by simp [beN_length]), List.take_left' (beN_length _ _), List.drop_left' (beN_length _ _), beval_beN,
      Nat.mod_eq_of_lt (by omega), if_neg (by simp [beN_length]), fill_back k h hm]
  · rw [if_pos h6, if_neg h6, List.nil_append, fill_back k h hm]
theorem parse_more (k : KeyM) (h : k.Ok) (hm : k.may) : keyParse (k.body ++ [0]) = .inl 3 := by
  have hl := KeyM.mat_length h hm
  rw [KeyM.body_parts, List.cons_append, List.append_assoc, List.cons_append, List.append_assoc, parse_tail k h hm]
  by_cases h6 : k.ver = 6
  · rw [if_neg (by simpa using h6), if_pos h6, if_neg (by simp [beN_length]), List.take_left' (beN_length _ _), beval_beN,
      Nat.mod_eq_of_lt (by omega), if_pos (by simp [beN_length])]
  · rw [if_pos h6, if_neg h6, List.nil_append, fill_more k h hm]
theorem parse_less (k : KeyM) (h : k.Ok) (hm : k.may) : ∃ e, e ≠ 0 ∧ keyParse (k.body.take (k.body.length - 1)) = .inl e := by
  have hl := KeyM.mat_length h hm
  have hp := KeyM.mat_pos h hm
  have key : ∀ (x a : UInt8) (c s m : List UInt8), c.length = 4 → 0 < m.length → (x :: (c ++ a :: (s ++ m))).take ((x :: (c ++ a :: (s ++ m))).length - 1) = x :: (c ++ a :: (s ++ m.take (m.length - 1))) := by
    intro x a c s m hc hm
    match c, hc with
    | [c1, c2, c3, c4], _ =>
      simp only [List.cons_append, List.nil_append, List.length_cons, List.length_append]
      rw [show s.length + m.length + 1 + 1 + 1 + 1 + 1 + 1 - 1 = (s.length + (m.length - 1)) + 1 + 1 + 1 + 1 + 1 + 1 by omega]
      simp only [List.take_succ_cons, List.take_length_add_append]
  rw [KeyM.body_parts, key _ _ _ _ _ (beN_length _ _) hp, parse_tail k h hm]
  by_cases h6 : k.ver = 6
  · refine ⟨3, by decide, ?_⟩
    rw [if_neg (by simpa using h6), if_pos h6, if_neg (by simp [beN_length]), List.take_left' (beN_length _ _), beval_beN,
      Nat.mod_eq_of_lt (by omega), if_pos (by simp [beN_length]; omega)]
  · rw [if_pos h6, if_neg h6, List.nil_append]
    exact fill_less k h hm

/-! ### The law -/

theorem alive23 : F_affiantlaw23_alive () = some true := by
  unfold F_affiantlaw23_alive
  have e1 := key_image_eq ⟨4, 0, 27, [], [], zero32⟩ ⟨by decide, by decide, by decide, by decide, by decide, fun _ h => (by cases h), fun _ h => (by cases h), by decide, by decide, by decide⟩
  have ht : (KeyM.mk 4 0 27 [] [] zero32).tup = (4, 0, 27, nilV, nilV, rep 32 0) := by unfold KeyM.tup; rw [intB_zero]; rfl
  rw [ht, if_pos (by decide +kernel)] at e1
  rw [e1]
  have e2 := key_parse_eq [3] (by decide)
  rw [show bytesV [3] = [V.int .u8 3] from rfl, show keyParse [3] = .inl 3 by rw [keyParse, if_neg (by decide), if_pos (by decide)]] at e2
  simp only [Option.bind_some]
  rw [e2]
  simp only [Option.bind_some, parseR]
  have hi : (KeyM.mk 4 0 27 [] [] zero32).image = [153, 0, 38, 4, 0, 0, 0, 0, 27] ++ zero32 := by decide +kernel
  rw [hi]
  decide +kernel

theorem dig_len_bits {v k : Nat} (h : bitlen v ≤ 32 * k) : (dig W32 v).length ≤ k := dig_length_le (by decide) (by
  have := bitlen_le.1 h
  rw [W32_pow, ← Nat.pow_mul]; exact this)
theorem KeyM.norm_ok {k : KeyM} (h : k.Ok) (hm : k.may) : k.norm.Ok := by
  unfold KeyM.norm
  split
  · exact h
  · have hlen : ∀ v, bitlen v ≤ 16384 → (dig W32 v).length ≤ 512 := fun v hv => dig_len_bits (by omega)
    obtain ⟨_, ⟨h1, h4, h2, h3⟩ | ⟨h1, _⟩⟩ := hm
    · exact ⟨h.v1, h.v2, h.c, h.a1, h.a2, isW_dig _, isW_dig _, by have := hlen _ h2; simp only; omega, by have := hlen _ h3; simp only; omega, h.p⟩
    · contradiction
theorem KeyM.norm_N (k : KeyM) : k.norm.N = k.N := by
  unfold KeyM.norm; split
  · rfl
  · exact val_dig (by decide) _
theorem KeyM.norm_E (k : KeyM) : k.norm.E = k.E := by
  unfold KeyM.norm; split
  · rfl
  · exact val_dig (by decide) _
theorem KeyM.norm_ver (k : KeyM) : k.norm.ver = k.ver := by unfold KeyM.norm; split <;> rfl
theorem KeyM.norm_cr (k : KeyM) : k.norm.cr = k.cr := by unfold KeyM.norm; split <;> rfl
theorem KeyM.norm_alg (k : KeyM) : k.norm.alg = k.alg := by unfold KeyM.norm; split <;> rfl
theorem KeyM.norm_pt (k : KeyM) : k.norm.pt = k.pt := by unfold KeyM.norm; split <;> rfl
theorem KeyM.norm_may {k : KeyM} (hm : k.may) : k.norm.may := by
  unfold KeyM.may
  rw [KeyM.norm_ver, KeyM.norm_alg, KeyM.norm_pt, KeyM.norm_N, KeyM.norm_E]
  refine ⟨hm.1, ?_⟩
  rcases hm.2 with h | ⟨h1, h2, h3⟩
  · exact .inl h
  · exact .inr ⟨h1, by unfold KeyM.norm; rw [if_pos h1]; exact h2, by unfold KeyM.norm; rw [if_pos h1]; exact h3⟩
theorem KeyM.norm_body (k : KeyM) : k.norm.body = k.body := by
  unfold KeyM.body KeyM.mat
  rw [KeyM.norm_ver, KeyM.norm_cr, KeyM.norm_alg, KeyM.norm_pt, KeyM.norm_N, KeyM.norm_E]
theorem KeyM.norm_image (k : KeyM) : k.norm.image = k.image := by
  unfold KeyM.image
  rw [KeyM.norm_ver, KeyM.norm_body]

theorem r23_equal_eq (k j : KeyM) (hk : k.Ok) (hj : j.Ok) : F_affiantref23_Equal (k.tup, j.tup) = some (decide (k.ver = j.ver ∧ k.cr = j.cr ∧ k.alg = j.alg ∧ k.pt = j.pt ∧ k.N = j.N ∧ k.E = j.E)) := by
  unfold F_affiantref23_Equal KeyM.tup
  simp only [fitI_intB hk.p, fitI_intB hj.p, beq_iff_eq]
  have no : ∀ {p : Prop} [Decidable p], ¬ p → ((some false : Option Bool).bind fun v => some v) = some (decide p) := fun {p} _ h => by rw [decide_eq_false h]; rfl
  have hkn := hk.nl; have hke := hk.el; have hjn := hj.nl; have hje := hj.el
  by_cases h1 : k.ver = j.ver
  · rw [if_pos h1]
    by_cases h2 : k.cr = j.cr
    · rw [if_pos (by omega)]
      by_cases h3 : k.alg = j.alg
      · rw [if_pos h3]
        by_cases h4 : k.pt = j.pt
        · rw [if_pos (by rw [h4]), r04_Cmp_eq _ _ hk.n hj.n (by omega) (by omega)]
          simp only [Option.bind_some]
          by_cases h5 : k.N = j.N
          · rw [if_pos (show cmpI (val W32 k.n) (val W32 j.n) = 0 from cmpI_zero.2 h5), r04_Cmp_eq _ _ hk.e hj.e (by omega) (by omega)]
            simp only [Option.bind_some]
            refine congrArg some ((show (cmpI (val W32 k.e) (val W32 j.e) == 0) = decide (cmpI (val W32 k.e) (val W32 j.e) = 0) from rfl).trans (decide_eq_decide.2 ?_))
            rw [cmpI_zero]
            exact ⟨fun h => ⟨h1, h2, h3, h4, h5, h⟩, fun h => h.2.2.2.2.2⟩
          · rw [if_neg (show ¬ cmpI (val W32 k.n) (val W32 j.n) = 0 from fun h => h5 (cmpI_zero.1 h))]
            exact no fun h => h5 h.2.2.2.2.1
        · rw [if_neg (fun h => h4 (intB_inj h))]
          exact no fun h => h4 h.2.2.2.1
      · rw [if_neg h3]; exact no fun h => h3 h.2.2.1
    · rw [if_neg (by omega)]; exact no fun h => h2 h.2.1
  · rw [if_neg h1]; exact no fun h => h1 h.1

/-- What any key that comes in meets. -/
structure KeyM.Ok0 (k : KeyM) : Prop where
  v1 : -9223372036854775808 ≤ k.ver
  v2 : k.ver ≤ 9223372036854775807
  c : k.cr < 4294967296
  a1 : -9223372036854775808 ≤ k.alg
  a2 : k.alg ≤ 9223372036854775807
  n : isW k.n
  e : isW k.e
  p : k.pt.length = 32
theorem KeyM.Ok0.ok {k : KeyM} (h : k.Ok0) (hn : k.n.length ≤ 100000) (he : k.e.length ≤ 100000) : k.Ok := ⟨h.v1, h.v2, h.c, h.a1, h.a2, h.n, h.e, hn, he, h.p⟩

end Go.Proofs.Ytffofdfikmpanaa.A

namespace Go.Proofs.Ytffofdfikmpanaa.A
set_option linter.unusedVariables false
set_option linter.unusedSimpArgs false
set_option maxRecDepth 10000

/-! ### Words -/

/-- A word turned left. -/
def rotl (k x n : Nat) : Nat := (x * 2 ^ n % 2 ^ k) ||| (x / 2 ^ (k - n))
theorem rotl_lt {k x n : Nat} (hx : x < 2 ^ k) : rotl k x n < 2 ^ k :=
  Nat.or_lt_two_pow (Nat.mod_lt _ (Nat.two_pow_pos k)) (Nat.lt_of_le_of_lt (Nat.div_le_self _ _) hx)

/-! ### A node's cells that are numbers -/

def nT (k : IntKind) (l : List Nat) : List T := (numV k l).map T.p
@[simp] theorem nT_length (k : IntKind) (l : List Nat) : (nT k l).length = l.length := by simp [nT]
theorem nT_get {k : IntKind} {l : List Nat} {i : Nat} (h : i < l.length) : (nT k l)[i]? = some (T.p (.int k ((l.getD i 0 : Nat) : Int))) := by
  simp only [nT, List.getElem?_map, numV_getD h]; rfl
theorem nT_set (k : IntKind) (l : List Nat) (i n : Nat) : (nT k l).set i (T.p (.int k (n : Int))) = nT k (l.set i n) := by
  simp only [nT, ← numV_set, List.map_set]
theorem nT_replicate (k : IntKind) (m : Nat) : nT k (List.replicate m 0) = List.replicate m (T.p (.int k 0)) := by simp [nT, numV_replicate]
theorem pures_nT (k : IntKind) (l : List Nat) : elemsS.T.pures (nT k l) = some (numV k l) := by
  unfold nT
  generalize numV k l = m
  induction m with
  | nil => rfl
  | cons v m ih => simp only [List.map_cons, elemsS.T.pures, ih]
theorem pures_map_p (m : List V) : elemsS.T.pures (m.map T.p) = some m := by
  induction m with
  | nil => rfl
  | cons v m ih => simp only [List.map_cons, elemsS.T.pures, ih]
theorem one_numV (k : IntKind) (l : List Nat) : (numV k l).all V.one = true := by
  rw [List.all_eq_true]; intro v hv
  simp only [numV, List.mem_map] at hv
  obtain ⟨n, _, rfl⟩ := hv; rfl
theorem one_bytesV (l : List UInt8) : (bytesV l).all V.one = true := by
  rw [List.all_eq_true]; intro v hv
  simp only [bytesV, List.mem_map] at hv
  obtain ⟨n, _, rfl⟩ := hv; rfl
theorem stab_numV (k : IntKind) : ∀ l : List Nat, V.stabL (numV k l) = true
  | [] => rfl
  | n :: l => by
    have := stab_numV k l
    simp only [numV, List.map_cons, V.stabL, V.stab, Bool.true_and] at this ⊢; exact this
@[simp] theorem numV_length' (k : IntKind) (l : List Nat) : (numV k l).length = l.length := by simp [numV]

/-! ### A block's words -/

/-- What stands in word j behind i bytes of a block, q bytes a word. -/
def ld (q : Nat) (b : List UInt8) (i j : Nat) : Nat := beval (((b.take i).drop (q * j)).take q)
theorem ld_zero (q : Nat) (b : List UInt8) (j : Nat) : ld q b 0 j = 0 := by simp [ld, beval_nil]
theorem ld_lt {q : Nat} {b : List UInt8} {i j : Nat} : ld q b i j < 256 ^ q :=
  Nat.lt_of_lt_of_le (beval_lt _) (Nat.pow_le_pow_right (by decide) (by simp; omega))
theorem ld_other {q : Nat} (hq : 0 < q) {b : List UInt8} {i j : Nat} (hj : j ≠ i / q) : ld q b (i + 1) j = ld q b i j := by
  unfold ld
  congr 1
  rcases Nat.lt_or_ge j (i / q) with h | h
  · have h1 : q * (j + 1) ≤ i := by
      have := Nat.mul_le_mul_left q (show j + 1 ≤ i / q by omega)
      have := Nat.mul_div_le i q
      omega
    rw [Nat.mul_add, Nat.mul_one] at h1
    rw [List.drop_take, List.drop_take, List.take_take, List.take_take, Nat.min_eq_left (by omega), Nat.min_eq_left (by omega)]
  · have h1 : i < q * j := by
      have h2 : i / q + 1 ≤ j := by omega
      have h3 := Nat.mul_le_mul_left q h2
      have h4 := Nat.lt_mul_div_succ i hq
      omega
    rw [List.drop_of_length_le (by simp; omega), List.drop_of_length_le (by simp; omega)]
theorem ld_same {q : Nat} (hq : 0 < q) {b : List UInt8} {i : Nat} (hi : i < b.length) : ld q b (i + 1) (i / q) = ld q b i (i / q) * 256 + (b.getD i 0).toNat ∧ ld q b i (i / q) < 256 ^ (q - 1) := by
  have h1 := Nat.mul_div_le i q
  have h2 := Nat.lt_mul_div_succ i hq
  rw [Nat.mul_add, Nat.mul_one] at h2
  have hl : (((b.take i).drop (q * (i / q))).take q) = (b.take i).drop (q * (i / q)) := List.take_of_length_le (by simp; omega)
  have hl2 : (((b.take (i + 1)).drop (q * (i / q))).take q) = (b.take (i + 1)).drop (q * (i / q)) := List.take_of_length_le (by simp; omega)
  unfold ld
  rw [hl, hl2]
  have ht : b.take (i + 1) = b.take i ++ [b.getD i 0] := by
    rw [List.take_add_one, List.getElem?_eq_getElem hi]
    simp [List.getD, List.getElem?_eq_getElem hi]
  rw [ht, List.drop_append_of_le_length (by simp; omega), beval_append]
  refine ⟨by simp [beval_cons, beval_nil], ?_⟩
  exact Nat.lt_of_lt_of_le (beval_lt _) (Nat.pow_le_pow_right (by decide) (by simp; omega))
/-- The cells behind i bytes. -/
def lds (q n : Nat) (b : List UInt8) (i : Nat) : List Nat := (List.range n).map (ld q b i)
@[simp] theorem lds_length (q n : Nat) (b : List UInt8) (i : Nat) : (lds q n b i).length = n := by simp [lds]
theorem lds_zero (q n : Nat) (b : List UInt8) : lds q n b 0 = List.replicate n 0 := by
  unfold lds
  refine List.ext_getElem? fun i => ?_
  by_cases hi : i < n
  · simp [hi, ld_zero]
  · simp [Nat.not_lt.1 hi]
theorem lds_get {q n : Nat} {b : List UInt8} {i j : Nat} (hj : j < n) : (lds q n b i).getD j 0 = ld q b i j := by simp [lds, List.getD, hj]
theorem lds_set {q n : Nat} (hq : 0 < q) {b : List UInt8} {i : Nat} (hi : i < b.length) (hn : i / q < n) : (lds q n b i).set (i / q) (ld q b i (i / q) * 256 + (b.getD i 0).toNat) = lds q n b (i + 1) := by
  refine List.ext_getElem? fun j => ?_
  by_cases hj : j = i / q
  · subst hj
    rw [List.getElem?_set_self (by simpa using hn), ← (ld_same hq hi).1]
    simp [lds, hn]
  · rw [List.getElem?_set_ne (Ne.symm hj)]
    by_cases hjn : j < n
    · simp [lds, hjn, ld_other hq hj]
    · simp [lds, hjn]

/-! ### More words -/

/-- Words by a rule: the first ones are told, each other one by those ahead. -/
def wgen (n0 : Nat) (w0 : Nat → Nat) (f : (Nat → Nat) → Nat → Nat) : Nat → List Nat
  | 0 => []
  | t + 1 => wgen n0 w0 f t ++ [if t < n0 then w0 t else f (fun j => (wgen n0 w0 f t).getD j 0) t]
@[simp] theorem wgen_length (n0 : Nat) (w0 : Nat → Nat) (f : (Nat → Nat) → Nat → Nat) : ∀ t, (wgen n0 w0 f t).length = t
  | 0 => rfl
  | t + 1 => by simp [wgen, wgen_length n0 w0 f t]
theorem wgen_first {n0 : Nat} {w0 : Nat → Nat} {f : (Nat → Nat) → Nat → Nat} : ∀ {t : Nat}, t ≤ n0 → wgen n0 w0 f t = (List.range t).map w0
  | 0, _ => rfl
  | t + 1, h => by rw [wgen, wgen_first (by omega), List.range_succ, List.map_append, if_pos (by omega)]; rfl
/-- The same, filled up with zeros. -/
def wfill (n n0 : Nat) (w0 : Nat → Nat) (f : (Nat → Nat) → Nat → Nat) (t : Nat) : List Nat := wgen n0 w0 f t ++ List.replicate (n - t) 0
theorem wfill_length {n n0 t : Nat} {w0 : Nat → Nat} {f : (Nat → Nat) → Nat → Nat} (h : t ≤ n) : (wfill n n0 w0 f t).length = n := by simp [wfill]; omega
theorem wfill_get {n n0 t j : Nat} {w0 : Nat → Nat} {f : (Nat → Nat) → Nat → Nat} (h : j < t) : (wfill n n0 w0 f t).getD j 0 = (wgen n0 w0 f t).getD j 0 := by
  simp only [wfill, List.getD_eq_getElem?_getD]
  rw [List.getElem?_append_left (by simpa using h)]
theorem wfill_set {n n0 t : Nat} {w0 : Nat → Nat} {f : (Nat → Nat) → Nat → Nat} (h : t < n) (h0 : n0 ≤ t) : (wfill n n0 w0 f t).set t (f (fun j => (wgen n0 w0 f t).getD j 0) t) = wfill n n0 w0 f (t + 1) := by
  unfold wfill
  rw [wgen, if_neg (by omega), show n - t = (n - (t + 1)) + 1 by omega, List.replicate_succ, List.append_assoc]
  rw [List.set_append_right _ _ (by simp)]
  simp
theorem wfill_full {n n0 : Nat} {w0 : Nat → Nat} {f : (Nat → Nat) → Nat → Nat} : wfill n n0 w0 f n = wgen n0 w0 f n := by simp [wfill]
theorem wfill_lds {q n : Nat} {b : List UInt8} {f : (Nat → Nat) → Nat → Nat} (hq : 0 < q) (hb : b.length = q * 16) (hn : 16 ≤ n) : lds q n b b.length = wfill n 16 (ld q b b.length) f 16 := by
  unfold wfill lds
  rw [wgen_first (Nat.le_refl _)]
  refine List.ext_getElem? fun j => ?_
  by_cases hj : j < 16
  · rw [List.getElem?_append_left (by simpa using hj)]
    simp [hj, show j < n by omega]
  · rw [List.getElem?_append_right (by simp; omega)]
    by_cases hjn : j < n
    · have : ld q b b.length j = 0 := by
        unfold ld
        rw [List.drop_of_length_le (by
          have := Nat.mul_le_mul_left q (show 16 ≤ j by omega)
          simp; omega)]
        simp [beval_nil]
      simp [hjn, this, show j - 16 < n - 16 by omega]
    · simp [hjn, show ¬ j - 16 < n - 16 by omega]
end Go.Proofs.Ytffofdfikmpanaa.A

namespace Go.Proofs.Ytffofdfikmpanaa.A
set_option linter.unusedVariables false
set_option linter.unusedSimpArgs false
set_option maxRecDepth 10000

theorem wgen_lt {B n0 : Nat} {w0 : Nat → Nat} {f : (Nat → Nat) → Nat → Nat} (hB : 0 < B) (h0 : ∀ t, w0 t < B) (hf : ∀ g t, (∀ j, g j < B) → f g t < B) : ∀ t, ∀ d ∈ wgen n0 w0 f t, d < B
  | 0, d, hd => by cases hd
  | t + 1, d, hd => by
    have ih := wgen_lt (n0 := n0) hB h0 hf t
    rw [wgen, List.mem_append] at hd
    rcases hd with hd | hd
    · exact ih d hd
    · rw [List.mem_singleton.1 hd]
      split
      · exact h0 t
      · refine hf _ _ fun j => ?_
        rw [List.getD_eq_getElem?_getD]
        cases hx : (wgen n0 w0 f t)[j]? with
        | none => exact hB
        | some x => exact ih x (List.mem_of_getElem? hx)
theorem getD_lt {B : Nat} (hB : 0 < B) {l : List Nat} (h : ∀ d ∈ l, d < B) (j : Nat) : l.getD j 0 < B := by
  rw [List.getD_eq_getElem?_getD]
  cases hx : l[j]? with
  | none => exact hB
  | some x => exact h x (List.mem_of_getElem? hx)
theorem w64_lit {n k : Nat} (h : k ≤ n) (hn : n < 4611686018427387904) : w64 ((n : Int) - (k : Int)) = ((n - k : Nat) : Int) := by
  rw [show (n : Int) - (k : Int) = ((n - k : Nat) : Int) by omega]; exact w64_nat (by omega)
theorem w64_inc {i : Nat} (h : i < 4611686018427387904) : w64 ((i : Int) + 1) = ((i + 1 : Nat) : Int) := w64_nat (n := i + 1) (by omega)

theorem rot32_eq {x : Nat} (hx : x < 2 ^ 32) {n : Int} {m : Nat} (h1 : wordAnd .u64 (wu64 n) 31 = (m : Int)) (h2 : 1 ≤ m) (h3 : m ≤ 31) : F_math_bits_RotateLeft32 ((x : Int), n) = some ((rotl 32 x m : Nat) : Int) := by
  unfold F_math_bits_RotateLeft32
  simp only
  rw [h1, show (32 : Int) - (m : Int) = ((32 - m : Nat) : Int) by omega, wu64_nat, Nat.mod_eq_of_lt (by omega), if_neg (by omega), wordShl_u32 x m (by omega), wordShr_u32 x (32 - m) (by omega),
    wordOr_u32 (Nat.mod_lt _ (by decide)) (Nat.lt_of_le_of_lt (Nat.div_le_self _ _) hx)]
  rfl

/-- SHA-1's word t, by those ahead. -/
def f1 (g : Nat → Nat) (t : Nat) : Nat := rotl 32 (g (t - 3) ^^^ g (t - 8) ^^^ g (t - 14) ^^^ g (t - 16)) 1
theorem f1_lt (g : Nat → Nat) (t : Nat) (h : ∀ j, g j < 2 ^ 32) : f1 g t < 2 ^ 32 :=
  rotl_lt (Nat.xor_lt_two_pow (Nat.xor_lt_two_pow (Nat.xor_lt_two_pow (h _) (h _)) (h _)) (h _))
def w1 (b : List UInt8) : List Nat := wgen 16 (ld 4 b 64) f1 80
theorem w1_lt (b : List UInt8) (t : Nat) : ∀ d ∈ wgen 16 (ld 4 b 64) f1 t, d < 2 ^ 32 := wgen_lt (by decide) (fun t => ld_lt) f1_lt t

set_option maxHeartbeats 1000000 in
theorem sha1_spread_eq (b : List UInt8) (hb : b.length = 64) : F_sha1_spread (bytesV b) = some (numV .u32 (w1 b)) := by
  unfold F_sha1_spread
  rw [if_pos ⟨by rw [bytesV_length, hb], one_bytesV b⟩, if_pos ⟨by rw [List.length_map, bytesV_length, hb]; exact Nat.le_refl _, by decide⟩, List.drop_zero, List.take_of_length_le (by rw [List.length_map, bytesV_length]; omega), pures_map_p, Option.bind_some]
  refine (congrArg (loopO _) ?_).trans (loopO_run (ι := Nat) (fun i => (nT .u32 (lds 4 80 b i), bytesV b, (i : Int))) (fun _ => numV .u32 (w1 b)) (fun i => i ≤ 64) (fun i => 64 - i) ?_ 0 (by omega))
  · rw [lds_zero, nT_replicate]; rfl
  · intro i hi
    dsimp only
    by_cases hlt : i < 64
    · left
      refine ⟨i + 1, ?_, by omega, by omega, rfl⟩
      have hq : w64 (Int.tdiv (i : Int) 4) = ((i / 4 : Nat) : Int) := by rw [show Int.tdiv (i : Int) 4 = ((i / 4 : Nat) : Int) from rfl, w64_nat (by omega)]
      obtain ⟨hs, hsl⟩ := ld_same (q := 4) (by omega) (b := b) (i := i) (by omega)
      have hx : (bytesV b)[Int.toNat (i : Int)]? = some (byteV (b.getD i 0)) := by rw [Int.toNat_natCast]; exact bytesV_getD (by omega)
      have hg : (nT .u32 (lds 4 80 b i))[0 + (i / 4) * 1]? = some (T.p (.int .u32 ((ld 4 b i (i / 4) : Nat) : Int))) := by
        rw [Nat.zero_add, Nat.mul_one, nT_get (by simp; omega), lds_get (by omega)]
      rw [if_pos (by simp; omega), if_pos (by omega), hx, Option.bind_some, byteV_int, Option.bind_some]
      simp only [hq, Int.toNat_natCast]
      rw [if_pos (by omega), if_pos (by simp; omega), hg, Option.bind_some, T.val?, Option.bind_some, int?_int, Option.bind_some, if_pos (by omega), if_pos (by simp; omega), if_pos (by simp; omega)]
      have hb8 := u8_lt (b.getD i 0)
      rw [show (8 : Int) = ((8 : Nat) : Int) from rfl, wordShl_u32 _ 8 (by omega), wu32_nat, Nat.mod_eq_of_lt (show (b.getD i 0).toNat < 4294967296 by omega), Nat.mod_eq_of_lt (show ld 4 b i (i / 4) * 2 ^ 8 < 4294967296 by omega),
        wordOr_u32 (by omega) (by omega), or_high (m := 8) ⟨_, Nat.mul_comm _ _⟩ (by omega), nT_set, Nat.zero_add, Nat.mul_one, show (2 : Nat) ^ 8 = 256 by decide, lds_set (by omega) (by omega) (by omega), w64_inc (by omega)]
    · right
      have h64 : i = 64 := by omega
      subst h64
      rw [if_neg (by simp)]
      refine bind_to ((congrArg (loopO _) ?_).trans (loopO_run (ι := Nat) (fun t => (nT .u32 (wfill 80 16 (ld 4 b 64) f1 t), (t : Int))) (fun _ => numV .u32 (w1 b)) (fun t => 16 ≤ t ∧ t ≤ 80) (fun t => 80 - t) ?_ 16 (by omega))) rfl
      · have := wfill_lds (q := 4) (n := 80) (b := b) (f := f1) (by omega) (by omega) (by omega)
        rw [hb] at this
        rw [this]; rfl
      · rintro t ⟨h16, h80⟩
        dsimp only
        have hln := wfill_length (n := 80) (n0 := 16) (w0 := ld 4 b 64) (f := f1) h80
        by_cases ht : t < 80
        · left
          refine ⟨t + 1, ?_, by omega, by omega, rfl⟩
          have hw := w1_lt b t
          have hlt := getD_lt (by decide) hw
          have hget : ∀ k, 1 ≤ k → k ≤ 16 → (nT .u32 (wfill 80 16 (ld 4 b 64) f1 t))[0 + (t - k) * 1]? = some (T.p (.int .u32 (((wgen 16 (ld 4 b 64) f1 t).getD (t - k) 0 : Nat) : Int))) := fun k h1 h2 => by
            rw [Nat.zero_add, Nat.mul_one, nT_get (by rw [hln]; omega), wfill_get (by omega)]
          have e3 : w64 ((t : Int) - 3) = ((t - 3 : Nat) : Int) := w64_lit (n := t) (k := 3) (by omega) (by omega)
          have e8 : w64 ((t : Int) - 8) = ((t - 8 : Nat) : Int) := w64_lit (n := t) (k := 8) (by omega) (by omega)
          have e14 : w64 ((t : Int) - 14) = ((t - 14 : Nat) : Int) := w64_lit (n := t) (k := 14) (by omega) (by omega)
          have e16 : w64 ((t : Int) - 16) = ((t - 16 : Nat) : Int) := w64_lit (n := t) (k := 16) (by omega) (by omega)
          simp only [e3, e8, e14, e16, Int.toNat_natCast]
          rw [if_pos (by simp; omega), if_pos (by omega), if_pos (by rw [nT_length, hln]; omega), hget 3 (by omega) (by omega), Option.bind_some, T.val?, Option.bind_some, int?_int, Option.bind_some,
            if_pos (by omega), if_pos (by rw [nT_length, hln]; omega), hget 8 (by omega) (by omega), Option.bind_some, T.val?, Option.bind_some, int?_int, Option.bind_some,
            if_pos (by omega), if_pos (by rw [nT_length, hln]; omega), hget 14 (by omega) (by omega), Option.bind_some, T.val?, Option.bind_some, int?_int, Option.bind_some,
            if_pos (by omega), if_pos (by rw [nT_length, hln]; omega), hget 16 (by omega) (by omega), Option.bind_some, T.val?, Option.bind_some, int?_int, Option.bind_some]
          have l1 := hlt (t - 3)
          have l2 := hlt (t - 8)
          have l3 := hlt (t - 14)
          have l4 := hlt (t - 16)
          have hx1 := Nat.xor_lt_two_pow l1 l2
          have hx2 := Nat.xor_lt_two_pow hx1 l3
          have hx3 := Nat.xor_lt_two_pow hx2 l4
          rw [wordXor_u32 l1 l2, wordXor_u32 hx1 l3, wordXor_u32 hx2 l4, rot32_eq hx3 (m := 1) (by decide +kernel) (by omega) (by omega), Option.bind_some, if_pos (by omega), if_pos (by rw [nT_length, hln]; omega), if_pos (by rw [nT_length, hln]; omega),
            nT_set, Nat.zero_add, Nat.mul_one, w64_inc (by omega)]
          have := wfill_set (n := 80) (n0 := 16) (w0 := ld 4 b 64) (f := f1) ht h16
          rw [← this]; rfl
        · right
          have h80' : t = 80 := by omega
          subst h80'
          rw [if_neg (by simp), wfill_full]
          rw [if_pos ⟨by simp, by decide⟩, List.drop_zero, List.take_of_length_le (by simp), pures_nT, Option.bind_some, if_pos ⟨by simp, by simp⟩, pures_map_p, Option.bind_some, if_pos ⟨by simp, by decide⟩, if_pos (stab_numV _ _)]
          rfl
end Go.Proofs.Ytffofdfikmpanaa.A

namespace Go.Proofs.Ytffofdfikmpanaa.A
set_option linter.unusedVariables false
set_option linter.unusedSimpArgs false
set_option maxRecDepth 10000

/-- Words as an array's numbers. -/
def natI (l : List Nat) : List Int := l.map Int.ofNat
theorem natI_getD (l : List Nat) (i : Nat) : (natI l).getD i 0 = ((l.getD i 0 : Nat) : Int) := by
  simp only [natI, List.getD_eq_getElem?_getD, List.getElem?_map]
  cases l[i]? <;> rfl
@[simp] theorem natI_length (l : List Nat) : (natI l).length = l.length := by simp [natI]
theorem fitI_natI {l : List Nat} {n : Nat} (h : l.length = n) : fitI (natI l) 0 n = natI l := fitI_eq (by simpa using h)
theorem five {α : Type} {l : List α} (h : l.length = 5) : ∃ a b c d e, l = [a, b, c, d, e] := by
  match l, h with
  | [a, b, c, d, e], _ => exact ⟨a, b, c, d, e, rfl⟩
theorem eight {α : Type} {l : List α} (h : l.length = 8) : ∃ a b c d e f g i, l = [a, b, c, d, e, f, g, i] := by
  match l, h with
  | [a, b, c, d, e, f, g, i], _ => exact ⟨a, b, c, d, e, f, g, i, rfl⟩

def rounds (f : Nat → List Nat → List Nat) (v : List Nat) : Nat → List Nat
  | 0 => v
  | t + 1 => f t (rounds f v t)
def addW (k n : Nat) (v h : List Nat) : List Nat := (List.range n).map fun i => (v.getD i 0 + h.getD i 0) % 2 ^ k

def mix1 (t b c d : Nat) : Nat := if t / 20 = 0 then d ^^^ (b &&& (c ^^^ d)) else if t / 20 = 2 then (b &&& c) ||| (d &&& (b ||| c)) else b ^^^ c ^^^ d
theorem mix1_lt {t b c d : Nat} (hb : b < 2 ^ 32) (hc : c < 2 ^ 32) (hd : d < 2 ^ 32) : mix1 t b c d < 2 ^ 32 := by
  unfold mix1
  have hand : ∀ {x y : Nat}, x < 2 ^ 32 → x &&& y < 2 ^ 32 := fun h => Nat.lt_of_le_of_lt Nat.and_le_left h
  split
  · exact Nat.xor_lt_two_pow hd (hand hb)
  · split
    · exact Nat.or_lt_two_pow (hand hb) (hand hd)
    · exact Nat.xor_lt_two_pow (Nat.xor_lt_two_pow hb hc) hd
theorem mix1_eq {t b c d : Nat} (ht : t < 80) (hb : b < 2 ^ 32) (hc : c < 2 ^ 32) (hd : d < 2 ^ 32) : F_sha1_mix ((t : Int), (b : Int), (c : Int), (d : Int)) = some ((mix1 t b c d : Nat) : Int) := by
  have hand : ∀ {x y : Nat}, x < 2 ^ 32 → x &&& y < 2 ^ 32 := fun h => Nat.lt_of_le_of_lt Nat.and_le_left h
  unfold F_sha1_mix mix1
  simp only
  rw [show Int.tdiv (t : Int) 20 = ((t / 20 : Nat) : Int) from rfl, w64_nat (by omega)]
  by_cases h0 : t / 20 = 0
  · rw [if_pos (by simp [h0]), if_pos h0, wordXor_u32 hc hd, wordAnd_u32 hb (Nat.xor_lt_two_pow hc hd), wordXor_u32 hd (hand hb)]
  · rw [if_neg (by simp only [beq_iff_eq]; omega), if_neg h0]
    by_cases h2 : t / 20 = 2
    · rw [if_pos (by simp [h2]), if_pos h2, wordAnd_u32 hb hc, wordOr_u32 hb hc, wordAnd_u32 hd (Nat.or_lt_two_pow hb hc), wordOr_u32 (hand hb) (hand hd)]
    · rw [if_neg (by simp only [beq_iff_eq]; omega), if_neg h2, wordXor_u32 hb hc, wordXor_u32 (Nat.xor_lt_two_pow hb hc) hd]

def k1 (t : Nat) : Nat := [1518500249, 1859775393, 2400959708, 3395469782].getD (t / 20) 0
def r1 (w : List Nat) (t : Nat) (v : List Nat) : List Nat :=
  [(rotl 32 (v.getD 0 0) 5 + mix1 t (v.getD 1 0) (v.getD 2 0) (v.getD 3 0) + v.getD 4 0 + k1 t + w.getD t 0) % 2 ^ 32, v.getD 0 0, rotl 32 (v.getD 1 0) 30, v.getD 2 0, v.getD 3 0]
def block1 (h : List Nat) (b : List UInt8) : List Nat := addW 32 5 (rounds (r1 (w1 b)) h 80) h
theorem rounds1_len {w h : List Nat} (hh : h.length = 5) : ∀ t, (rounds (r1 w) h t).length = 5
  | 0 => hh
  | t + 1 => rfl
theorem rounds1_lt {w h : List Nat} (hh : ∀ d ∈ h, d < 2 ^ 32) : ∀ t, ∀ d ∈ rounds (r1 w) h t, d < 2 ^ 32
  | 0 => hh
  | t + 1 => by
    have ih := getD_lt (by decide) (rounds1_lt (w := w) hh t)
    intro d hd
    simp only [rounds, r1, List.mem_cons, List.mem_nil_iff, or_false] at hd
    rcases hd with rfl | rfl | rfl | rfl | rfl
    · exact Nat.mod_lt _ (by decide)
    · exact ih 0
    · exact rotl_lt (ih 1)
    · exact ih 2
    · exact ih 3
theorem addW_len (k n : Nat) (v h : List Nat) : (addW k n v h).length = n := by simp [addW]
theorem addW_lt (k n : Nat) (v h : List Nat) : ∀ d ∈ addW k n v h, d < 2 ^ k := by
  intro d hd
  simp only [addW, List.mem_map] at hd
  obtain ⟨i, _, rfl⟩ := hd
  exact Nat.mod_lt _ (Nat.two_pow_pos k)
theorem add4 (a b c d e : Nat) : wu32 (wu32 (wu32 (wu32 ((a : Int) + (b : Int)) + (c : Int)) + (d : Int)) + (e : Int)) = (((a + b + c + d + e) % 2 ^ 32 : Nat) : Int) := by
  simp only [wu32_eq]; omega
theorem wu32_add (a b : Nat) : wu32 ((a : Int) + (b : Int)) = (((a + b) % 2 ^ 32 : Nat) : Int) := by
  simp only [wu32_eq]; omega

set_option maxHeartbeats 1000000 in
theorem sha1_block_eq (h : List Nat) (b : List UInt8) (hh : h.length = 5) (hw : ∀ d ∈ h, d < 2 ^ 32) (hb : b.length = 64) : F_sha1_Block (natI h, bytesV b) = some (natI (block1 h b)) := by
  obtain ⟨h0, h1, h2, h3, h4, rfl⟩ := five hh
  unfold F_sha1_Block
  simp only
  rw [if_pos ⟨by rw [bytesV_length, hb], one_bytesV b⟩, if_pos ⟨by rw [List.length_map, bytesV_length, hb]; exact Nat.le_refl _, by decide⟩, List.drop_zero, List.take_of_length_le (by rw [List.length_map, bytesV_length]; omega), pures_map_p, Option.bind_some,
    sha1_spread_eq b hb, Option.bind_some]
  have hwl : (w1 b).length = 80 := wgen_length _ _ _ _
  have hwt : ∀ j, (w1 b).getD j 0 < 2 ^ 32 := getD_lt (by decide) (w1_lt b 80)
  refine (congrArg (loopO _) ?_).trans (loopO_run (ι := Nat) (fun t => ([1518500249, 1859775393, 2400959708, 3395469782], natI (rounds (r1 (w1 b)) [h0, h1, h2, h3, h4] t), numV .u32 (w1 b), (t : Int))) (fun _ => natI (block1 [h0, h1, h2, h3, h4] b)) (fun t => t ≤ 80) (fun t => 80 - t) ?_ 0 (by omega))
  · rfl
  · intro t ht
    dsimp only
    by_cases hlt : t < 80
    · left
      refine ⟨t + 1, ?_, by omega, by omega, rfl⟩
      have hv := getD_lt (by decide) (rounds1_lt (w := w1 b) hw t)
      rw [if_pos (by simp; omega), if_pos (by omega), Int.toNat_natCast, numV_getD (by omega), Option.bind_some, int?_int, Option.bind_some]
      simp only [natI_getD]
      rw [rot32_eq (hv 0) (m := 5) (by decide +kernel) (by omega) (by omega), Option.bind_some, mix1_eq hlt (hv 1) (hv 2) (hv 3), Option.bind_some]
      have hq : w64 (Int.tdiv (t : Int) 20) = ((t / 20 : Nat) : Int) := by rw [show Int.tdiv (t : Int) 20 = ((t / 20 : Nat) : Int) from rfl, w64_nat (by omega)]
      rw [hq, Int.toNat_natCast, Nat.zero_add, Nat.mul_one, if_pos (by omega), if_pos (by omega)]
      have hk : ([T.p (V.int .u32 (List.getD [1518500249, 1859775393, 2400959708, 3395469782] 0 0)), T.p (V.int .u32 (List.getD [1518500249, 1859775393, 2400959708, 3395469782] 1 0)), T.p (V.int .u32 (List.getD [1518500249, 1859775393, 2400959708, 3395469782] 2 0)), T.p (V.int .u32 (List.getD [1518500249, 1859775393, 2400959708, 3395469782] 3 0))] : List T)[t / 20]? = some (T.p (.int .u32 ((k1 t : Nat) : Int))) := by
        unfold k1
        have : t / 20 = 0 ∨ t / 20 = 1 ∨ t / 20 = 2 ∨ t / 20 = 3 := by omega
        rcases this with h | h | h | h <;> rw [h] <;> rfl
      rw [hk, Option.bind_some, T.val?, Option.bind_some, int?_int, Option.bind_some, rot32_eq (hv 1) (m := 30) (by decide +kernel) (by omega) (by omega), Option.bind_some, add4, w64_inc (by omega)]
      rfl
    · right
      have h80 : t = 80 := by omega
      subst h80
      rw [if_neg (by simp)]
      obtain ⟨v0, v1, v2, v3, v4, hv⟩ := five (rounds1_len (w := w1 b) (h := [h0, h1, h2, h3, h4]) rfl 80)
      unfold block1
      rw [hv]
      refine bind_to (v := natI (addW 32 5 [v0, v1, v2, v3, v4] [h0, h1, h2, h3, h4])) ?_ rfl
      have e : natI (addW 32 5 [v0, v1, v2, v3, v4] [h0, h1, h2, h3, h4]) = [wu32 ((v0 : Int) + h0), wu32 ((v1 : Int) + h1), wu32 ((v2 : Int) + h2), wu32 ((v3 : Int) + h3), wu32 ((v4 : Int) + h4)] := by
        simp only [wu32_add]; rfl
      rw [e]
      refine (loopO_inl (s' := ([(h0 : Int), h1, h2, h3, h4], [wu32 ((v0 : Int) + h0), (v1 : Int), (v2 : Int), (v3 : Int), (v4 : Int)], 1)) rfl).trans ?_
      refine (loopO_inl (s' := ([(h0 : Int), h1, h2, h3, h4], [wu32 ((v0 : Int) + h0), wu32 ((v1 : Int) + h1), (v2 : Int), (v3 : Int), (v4 : Int)], 2)) rfl).trans ?_
      refine (loopO_inl (s' := ([(h0 : Int), h1, h2, h3, h4], [wu32 ((v0 : Int) + h0), wu32 ((v1 : Int) + h1), wu32 ((v2 : Int) + h2), (v3 : Int), (v4 : Int)], 3)) rfl).trans ?_
      refine (loopO_inl (s' := ([(h0 : Int), h1, h2, h3, h4], [wu32 ((v0 : Int) + h0), wu32 ((v1 : Int) + h1), wu32 ((v2 : Int) + h2), wu32 ((v3 : Int) + h3), (v4 : Int)], 4)) rfl).trans ?_
      refine (loopO_inl (s' := ([(h0 : Int), h1, h2, h3, h4], [wu32 ((v0 : Int) + h0), wu32 ((v1 : Int) + h1), wu32 ((v2 : Int) + h2), wu32 ((v3 : Int) + h3), wu32 ((v4 : Int) + h4)], 5)) rfl).trans ?_
      exact loopO_inr rfl
end Go.Proofs.Ytffofdfikmpanaa.A

namespace Go.Proofs.Ytffofdfikmpanaa.A
set_option linter.unusedVariables false
set_option linter.unusedSimpArgs false
set_option maxRecDepth 10000

def s0w (x : Nat) : Nat := rotl 32 x 25 ^^^ rotl 32 x 14 ^^^ x / 2 ^ 3
def s1w (x : Nat) : Nat := rotl 32 x 15 ^^^ rotl 32 x 13 ^^^ x / 2 ^ 10
/-- SHA-256's word t, by those ahead. -/
def f2 (g : Nat → Nat) (t : Nat) : Nat := (g (t - 16) + s0w (g (t - 15)) + g (t - 7) + s1w (g (t - 2))) % 2 ^ 32
theorem f2_lt (g : Nat → Nat) (t : Nat) (h : ∀ j, g j < 2 ^ 32) : f2 g t < 2 ^ 32 := Nat.mod_lt _ (by decide)
def w2 (b : List UInt8) : List Nat := wgen 16 (ld 4 b 64) f2 64
theorem w2_lt (b : List UInt8) (t : Nat) : ∀ d ∈ wgen 16 (ld 4 b 64) f2 t, d < 2 ^ 32 := wgen_lt (by decide) (fun t => ld_lt) f2_lt t
theorem s0w_eq {x : Nat} (hx : x < 2 ^ 32) : wordXor .u32 (wordXor .u32 ((rotl 32 x 25 : Nat) : Int) ((rotl 32 x 14 : Nat) : Int)) (wordShr .u32 (x : Int) 3) = ((s0w x : Nat) : Int) := by
  rw [show (3 : Int) = ((3 : Nat) : Int) from rfl, wordShr_u32 x 3 (by omega), wordXor_u32 (rotl_lt hx) (rotl_lt hx), wordXor_u32 (Nat.xor_lt_two_pow (rotl_lt hx) (rotl_lt hx)) (Nat.lt_of_le_of_lt (Nat.div_le_self _ _) hx)]
  rfl
theorem s1w_eq {x : Nat} (hx : x < 2 ^ 32) : wordXor .u32 (wordXor .u32 ((rotl 32 x 15 : Nat) : Int) ((rotl 32 x 13 : Nat) : Int)) (wordShr .u32 (x : Int) 10) = ((s1w x : Nat) : Int) := by
  rw [show (10 : Int) = ((10 : Nat) : Int) from rfl, wordShr_u32 x 10 (by omega), wordXor_u32 (rotl_lt hx) (rotl_lt hx), wordXor_u32 (Nat.xor_lt_two_pow (rotl_lt hx) (rotl_lt hx)) (Nat.lt_of_le_of_lt (Nat.div_le_self _ _) hx)]
  rfl
theorem add3 (a b c d : Nat) : wu32 (wu32 (wu32 ((a : Int) + (b : Int)) + (c : Int)) + (d : Int)) = (((a + b + c + d) % 2 ^ 32 : Nat) : Int) := by
  simp only [wu32_eq]; omega

set_option maxHeartbeats 1000000 in
theorem sha256_spread_eq (b : List UInt8) (hb : b.length = 64) : F_sha256_spread (bytesV b) = some (numV .u32 (w2 b)) := by
  unfold F_sha256_spread
  rw [if_pos ⟨by rw [bytesV_length, hb], one_bytesV b⟩, if_pos ⟨by rw [List.length_map, bytesV_length, hb]; exact Nat.le_refl _, by decide⟩, List.drop_zero, List.take_of_length_le (by rw [List.length_map, bytesV_length]; omega), pures_map_p, Option.bind_some]
  refine (congrArg (loopO _) ?_).trans (loopO_run (ι := Nat) (fun i => (nT .u32 (lds 4 64 b i), bytesV b, (i : Int))) (fun _ => numV .u32 (w2 b)) (fun i => i ≤ 64) (fun i => 64 - i) ?_ 0 (by omega))
  · rw [lds_zero, nT_replicate]; rfl
  · intro i hi
    dsimp only
    by_cases hlt : i < 64
    · left
      refine ⟨i + 1, ?_, by omega, by omega, rfl⟩
      have hq : w64 (Int.tdiv (i : Int) 4) = ((i / 4 : Nat) : Int) := by rw [show Int.tdiv (i : Int) 4 = ((i / 4 : Nat) : Int) from rfl, w64_nat (by omega)]
      obtain ⟨hs, hsl⟩ := ld_same (q := 4) (by omega) (b := b) (i := i) (by omega)
      have hx : (bytesV b)[Int.toNat (i : Int)]? = some (byteV (b.getD i 0)) := by rw [Int.toNat_natCast]; exact bytesV_getD (by omega)
      have hg : (nT .u32 (lds 4 64 b i))[0 + (i / 4) * 1]? = some (T.p (.int .u32 ((ld 4 b i (i / 4) : Nat) : Int))) := by
        rw [Nat.zero_add, Nat.mul_one, nT_get (by simp; omega), lds_get (by omega)]
      rw [if_pos (by simp; omega), if_pos (by omega), hx, Option.bind_some, byteV_int, Option.bind_some]
      simp only [hq, Int.toNat_natCast]
      rw [if_pos (by omega), if_pos (by simp; omega), hg, Option.bind_some, T.val?, Option.bind_some, int?_int, Option.bind_some, if_pos (by omega), if_pos (by simp; omega), if_pos (by simp; omega)]
      have hb8 := u8_lt (b.getD i 0)
      rw [show (8 : Int) = ((8 : Nat) : Int) from rfl, wordShl_u32 _ 8 (by omega), wu32_nat, Nat.mod_eq_of_lt (show (b.getD i 0).toNat < 4294967296 by omega), Nat.mod_eq_of_lt (show ld 4 b i (i / 4) * 2 ^ 8 < 4294967296 by omega),
        wordOr_u32 (by omega) (by omega), or_high (m := 8) ⟨_, Nat.mul_comm _ _⟩ (by omega), nT_set, Nat.zero_add, Nat.mul_one, show (2 : Nat) ^ 8 = 256 by decide, lds_set (by omega) (by omega) (by omega), w64_inc (by omega)]
    · right
      have h64 : i = 64 := by omega
      subst h64
      rw [if_neg (by simp)]
      refine bind_to ((congrArg (loopO _) ?_).trans (loopO_run (ι := Nat) (fun t => (nT .u32 (wfill 64 16 (ld 4 b 64) f2 t), (t : Int))) (fun _ => numV .u32 (w2 b)) (fun t => 16 ≤ t ∧ t ≤ 64) (fun t => 64 - t) ?_ 16 (by omega))) rfl
      · have := wfill_lds (q := 4) (n := 64) (b := b) (f := f2) (by omega) (by omega) (by omega)
        rw [hb] at this
        rw [this]; rfl
      · rintro t ⟨h16, h80⟩
        dsimp only
        have hln := wfill_length (n := 64) (n0 := 16) (w0 := ld 4 b 64) (f := f2) h80
        by_cases ht : t < 64
        · left
          refine ⟨t + 1, ?_, by omega, by omega, rfl⟩
          have hw := w2_lt b t
          have hlt := getD_lt (by decide) hw
          have hget : ∀ k, 1 ≤ k → k ≤ 16 → (nT .u32 (wfill 64 16 (ld 4 b 64) f2 t))[0 + (t - k) * 1]? = some (T.p (.int .u32 (((wgen 16 (ld 4 b 64) f2 t).getD (t - k) 0 : Nat) : Int))) := fun k h1 h2 => by
            rw [Nat.zero_add, Nat.mul_one, nT_get (by rw [hln]; omega), wfill_get (by omega)]
          have e15 : w64 ((t : Int) - 15) = ((t - 15 : Nat) : Int) := w64_lit (n := t) (k := 15) (by omega) (by omega)
          have e2 : w64 ((t : Int) - 2) = ((t - 2 : Nat) : Int) := w64_lit (n := t) (k := 2) (by omega) (by omega)
          have e16 : w64 ((t : Int) - 16) = ((t - 16 : Nat) : Int) := w64_lit (n := t) (k := 16) (by omega) (by omega)
          have e7 : w64 ((t : Int) - 7) = ((t - 7 : Nat) : Int) := w64_lit (n := t) (k := 7) (by omega) (by omega)
          simp only [e15, e2, e16, e7, Int.toNat_natCast]
          rw [if_pos (by simp; omega), if_pos (by omega), if_pos (by rw [nT_length, hln]; omega), hget 15 (by omega) (by omega), Option.bind_some, T.val?, Option.bind_some, int?_int, Option.bind_some,
            if_pos (by omega), if_pos (by rw [nT_length, hln]; omega), hget 2 (by omega) (by omega), Option.bind_some, T.val?, Option.bind_some, int?_int, Option.bind_some,
            rot32_eq (hlt _) (m := 25) (by decide +kernel) (by omega) (by omega), Option.bind_some, rot32_eq (hlt _) (m := 14) (by decide +kernel) (by omega) (by omega), Option.bind_some,
            rot32_eq (hlt _) (m := 15) (by decide +kernel) (by omega) (by omega), Option.bind_some, rot32_eq (hlt _) (m := 13) (by decide +kernel) (by omega) (by omega), Option.bind_some,
            if_pos (by omega), if_pos (by rw [nT_length, hln]; omega), hget 16 (by omega) (by omega), Option.bind_some, T.val?, Option.bind_some, int?_int, Option.bind_some,
            if_pos (by omega), if_pos (by rw [nT_length, hln]; omega), hget 7 (by omega) (by omega), Option.bind_some, T.val?, Option.bind_some, int?_int, Option.bind_some,
            s0w_eq (hlt _), s1w_eq (hlt _), add3, if_pos (by omega), if_pos (by rw [nT_length, hln]; omega), if_pos (by rw [nT_length, hln]; omega), nT_set, Nat.zero_add, Nat.mul_one, w64_inc (by omega)]
          have := wfill_set (n := 64) (n0 := 16) (w0 := ld 4 b 64) (f := f2) ht h16
          rw [← this]; rfl
        · right
          have h80' : t = 64 := by omega
          subst h80'
          rw [if_neg (by simp), wfill_full]
          rw [if_pos ⟨by simp, by decide⟩, List.drop_zero, List.take_of_length_le (by simp), pures_nT, Option.bind_some, if_pos ⟨by simp, by simp⟩, pures_map_p, Option.bind_some, if_pos ⟨by simp, by decide⟩, if_pos (stab_numV _ _)]
          rfl
end Go.Proofs.Ytffofdfikmpanaa.A

namespace Go.Proofs.Ytffofdfikmpanaa.A
set_option linter.unusedVariables false
set_option linter.unusedSimpArgs false
set_option maxRecDepth 10000

def k2 : List Nat := [1116352408, 1899447441, 3049323471, 3921009573, 961987163, 1508970993, 2453635748, 2870763221, 3624381080, 310598401, 607225278, 1426881987, 1925078388, 2162078206, 2614888103, 3248222580, 3835390401, 4022224774, 264347078, 604807628, 770255983, 1249150122, 1555081692, 1996064986, 2554220882, 2821834349, 2952996808, 3210313671, 3336571891, 3584528711, 113926993, 338241895, 666307205, 773529912, 1294757372, 1396182291, 1695183700, 1986661051, 2177026350, 2456956037, 2730485921, 2820302411, 3259730800, 3345764771, 3516065817, 3600352804, 4094571909, 275423344, 430227734, 506948616, 659060556, 883997877, 958139571, 1322822218, 1537002063, 1747873779, 1955562222, 2024104815, 2227730452, 2361852424, 2428436474, 2756734187, 3204031479, 3329325298]
theorem k2_length : k2.length = 64 := rfl
theorem sha256_steps_eq : F_sha256_steps PUnit.unit = some (numV .u32 k2) := rfl
def t1w (k : Nat) (S : Nat → Nat) (e f g h kt w : Nat) : Nat := (h + S e + ((e &&& f) ^^^ ((2 ^ k - 1 ^^^ e) &&& g)) + kt + w) % 2 ^ k
def t2w (k : Nat) (S : Nat → Nat) (a b c : Nat) : Nat := (S a + ((a &&& b) ||| (c &&& (a ||| b)))) % 2 ^ k
def rr (k : Nat) (S1 S0 : Nat → Nat) (ks w : List Nat) (t : Nat) (v : List Nat) : List Nat :=
  let t1 := t1w k S1 (v.getD 4 0) (v.getD 5 0) (v.getD 6 0) (v.getD 7 0) (ks.getD t 0) (w.getD t 0)
  [(t1 + t2w k S0 (v.getD 0 0) (v.getD 1 0) (v.getD 2 0)) % 2 ^ k, v.getD 0 0, v.getD 1 0, v.getD 2 0, (v.getD 3 0 + t1) % 2 ^ k, v.getD 4 0, v.getD 5 0, v.getD 6 0]
def S1x (x : Nat) : Nat := rotl 32 x 26 ^^^ rotl 32 x 21 ^^^ rotl 32 x 7
def S0x (x : Nat) : Nat := rotl 32 x 30 ^^^ rotl 32 x 19 ^^^ rotl 32 x 10
def block2 (h : List Nat) (b : List UInt8) : List Nat := addW 32 8 (rounds (rr 32 S1x S0x k2 (w2 b)) h 64) h
theorem rr_len {k : Nat} {S1 S0 : Nat → Nat} {ks w h : List Nat} (hh : h.length = 8) : ∀ t, (rounds (rr k S1 S0 ks w) h t).length = 8
  | 0 => hh
  | t + 1 => rfl
theorem rr_lt {k : Nat} {S1 S0 : Nat → Nat} {ks w h : List Nat} (hh : ∀ d ∈ h, d < 2 ^ k) : ∀ t, ∀ d ∈ rounds (rr k S1 S0 ks w) h t, d < 2 ^ k
  | 0 => hh
  | t + 1 => by
    have ih := getD_lt (Nat.two_pow_pos k) (rr_lt (S1 := S1) (S0 := S0) (ks := ks) (w := w) hh t)
    intro d hd
    simp only [rounds, rr, List.mem_cons, List.mem_nil_iff, or_false] at hd
    rcases hd with rfl | rfl | rfl | rfl | rfl | rfl | rfl | rfl
    · exact Nat.mod_lt _ (Nat.two_pow_pos k)
    · exact ih 0
    · exact ih 1
    · exact ih 2
    · exact Nat.mod_lt _ (Nat.two_pow_pos k)
    · exact ih 4
    · exact ih 5
    · exact ih 6
theorem S1x_lt {x : Nat} (h : x < 2 ^ 32) : S1x x < 2 ^ 32 := Nat.xor_lt_two_pow (Nat.xor_lt_two_pow (rotl_lt h) (rotl_lt h)) (rotl_lt h)
theorem S0x_lt {x : Nat} (h : x < 2 ^ 32) : S0x x < 2 ^ 32 := Nat.xor_lt_two_pow (Nat.xor_lt_two_pow (rotl_lt h) (rotl_lt h)) (rotl_lt h)
theorem xor3_32 {a b c x : Nat} (h : x < 2 ^ 32) : wordXor .u32 (wordXor .u32 ((rotl 32 x a : Nat) : Int) ((rotl 32 x b : Nat) : Int)) ((rotl 32 x c : Nat) : Int) = ((rotl 32 x a ^^^ rotl 32 x b ^^^ rotl 32 x c : Nat) : Int) := by
  rw [wordXor_u32 (rotl_lt h) (rotl_lt h), wordXor_u32 (Nat.xor_lt_two_pow (rotl_lt h) (rotl_lt h)) (rotl_lt h)]
theorem and_lt' {k x y : Nat} (h : x < 2 ^ k) : x &&& y < 2 ^ k := Nat.lt_of_le_of_lt Nat.and_le_left h
theorem ch_32 {e f g : Nat} (he : e < 2 ^ 32) (hf : f < 2 ^ 32) (hg : g < 2 ^ 32) : wordXor .u32 (wordAnd .u32 (e : Int) (f : Int)) (wordAnd .u32 (wordXor .u32 (Int.ofNat (2 ^ 32 - Nat.succ 0)) (e : Int)) (g : Int)) = (((e &&& f) ^^^ ((2 ^ 32 - 1 ^^^ e) &&& g) : Nat) : Int) := by
  have h1 : (2 ^ 32 - 1 : Nat) < 2 ^ 32 := by decide
  have h2 := Nat.xor_lt_two_pow h1 he
  rw [show Int.ofNat (2 ^ 32 - Nat.succ 0) = ((2 ^ 32 - 1 : Nat) : Int) from rfl, wordXor_u32 h1 he, wordAnd_u32 he hf, wordAnd_u32 h2 hg, wordXor_u32 (and_lt' he) (and_lt' h2)]
theorem maj_32 {a b c : Nat} (ha : a < 2 ^ 32) (hb : b < 2 ^ 32) (hc : c < 2 ^ 32) : wordOr .u32 (wordAnd .u32 (a : Int) (b : Int)) (wordAnd .u32 (c : Int) (wordOr .u32 (a : Int) (b : Int))) = (((a &&& b) ||| (c &&& (a ||| b)) : Nat) : Int) := by
  rw [wordAnd_u32 ha hb, wordOr_u32 ha hb, wordAnd_u32 hc (Nat.or_lt_two_pow ha hb), wordOr_u32 (and_lt' ha) (and_lt' hc)]

set_option maxHeartbeats 2000000 in
theorem sha256_block_eq (h : List Nat) (b : List UInt8) (hh : h.length = 8) (hw : ∀ d ∈ h, d < 2 ^ 32) (hb : b.length = 64) : F_sha256_Block (natI h, bytesV b) = some (natI (block2 h b)) := by
  unfold F_sha256_Block
  simp only
  have hk : ∀ {l : List Nat}, l.length = 8 → fitI (natI l) 0 8 = natI l := fun h => fitI_natI h
  simp only [hk hh]
  rw [if_pos ⟨by rw [bytesV_length, hb], one_bytesV b⟩, sha256_steps_eq, Option.bind_some, if_pos ⟨by rw [numV_length', k2_length], by simp⟩, if_pos ⟨by rw [List.length_map, bytesV_length, hb]; exact Nat.le_refl _, by decide⟩, List.drop_zero, List.take_of_length_le (by rw [List.length_map, bytesV_length]; omega), pures_map_p, Option.bind_some,
    sha256_spread_eq b hb, Option.bind_some]
  have hwl : (w2 b).length = 64 := wgen_length _ _ _ _
  have hwt : ∀ j, (w2 b).getD j 0 < 2 ^ 32 := getD_lt (by decide) (w2_lt b 64)
  refine (congrArg (loopO _) ?_).trans (loopO_run (ι := Nat) (fun t => (nT .u32 k2, natI (rounds (rr 32 S1x S0x k2 (w2 b)) h t), numV .u32 (w2 b), (t : Int))) (fun _ => natI (block2 h b)) (fun t => t ≤ 64) (fun t => 64 - t) ?_ 0 (by omega))
  · rfl
  · intro t ht
    dsimp only
    by_cases hlt : t < 64
    · left
      refine ⟨t + 1, ?_, by omega, by omega, rfl⟩
      have hv := getD_lt (by decide) (rr_lt (S1 := S1x) (S0 := S0x) (ks := k2) (w := w2 b) hw t)
      rw [if_pos (by simp; omega), if_pos (by omega), Int.toNat_natCast, numV_getD (by omega), Option.bind_some, int?_int, Option.bind_some]
      simp only [natI_getD]
      rw [rot32_eq (hv 4) (m := 26) (by decide +kernel) (by omega) (by omega), Option.bind_some, rot32_eq (hv 4) (m := 21) (by decide +kernel) (by omega) (by omega), Option.bind_some, rot32_eq (hv 4) (m := 7) (by decide +kernel) (by omega) (by omega), Option.bind_some,
        if_pos (by omega), if_pos (by rw [nT_length, k2_length]; omega), Nat.zero_add, Nat.mul_one, nT_get (by rw [k2_length]; omega), Option.bind_some, T.val?, Option.bind_some, int?_int, Option.bind_some,
        rot32_eq (hv 0) (m := 30) (by decide +kernel) (by omega) (by omega), Option.bind_some, rot32_eq (hv 0) (m := 19) (by decide +kernel) (by omega) (by omega), Option.bind_some, rot32_eq (hv 0) (m := 10) (by decide +kernel) (by omega) (by omega), Option.bind_some,
        xor3_32 (hv 4), xor3_32 (hv 0), ch_32 (hv 4) (hv 5) (hv 6), maj_32 (hv 0) (hv 1) (hv 2), add4, wu32_add, wu32_add, wu32_add, w64_inc (by omega)]
      rfl
    · right
      have h80 : t = 64 := by omega
      subst h80
      rw [if_neg (by simp)]
      obtain ⟨v0, v1, v2, v3, v4, v5, v6, v7, hv⟩ := eight (rr_len (k := 32) (S1 := S1x) (S0 := S0x) (ks := k2) (w := w2 b) hh 64)
      obtain ⟨h0, h1, h2, h3, h4, h5, h6, h7, rfl⟩ := eight hh
      unfold block2
      rw [hv]
      refine bind_to (v := natI (addW 32 8 [v0, v1, v2, v3, v4, v5, v6, v7] [h0, h1, h2, h3, h4, h5, h6, h7])) ?_ rfl
      have e : natI (addW 32 8 [v0, v1, v2, v3, v4, v5, v6, v7] [h0, h1, h2, h3, h4, h5, h6, h7]) = [wu32 ((v0 : Int) + h0), wu32 ((v1 : Int) + h1), wu32 ((v2 : Int) + h2), wu32 ((v3 : Int) + h3), wu32 ((v4 : Int) + h4), wu32 ((v5 : Int) + h5), wu32 ((v6 : Int) + h6), wu32 ((v7 : Int) + h7)] := by
        simp only [wu32_add]; rfl
      rw [e]
      refine (loopO_inl (s' := ([(h0 : Int), h1, h2, h3, h4, h5, h6, h7], [wu32 ((v0 : Int) + h0), (v1 : Int), (v2 : Int), (v3 : Int), (v4 : Int), (v5 : Int), (v6 : Int), (v7 : Int)], 1)) rfl).trans ?_
      refine (loopO_inl (s' := ([(h0 : Int), h1, h2, h3, h4, h5, h6, h7], [wu32 ((v0 : Int) + h0), wu32 ((v1 : Int) + h1), (v2 : Int), (v3 : Int), (v4 : Int), (v5 : Int), (v6 : Int), (v7 : Int)], 2)) rfl).trans ?_
      refine (loopO_inl (s' := ([(h0 : Int), h1, h2, h3, h4, h5, h6, h7], [wu32 ((v0 : Int) + h0), wu32 ((v1 : Int) + h1), wu32 ((v2 : Int) + h2), (v3 : Int), (v4 : Int), (v5 : Int), (v6 : Int), (v7 : Int)], 3)) rfl).trans ?_
      refine (loopO_inl (s' := ([(h0 : Int), h1, h2, h3, h4, h5, h6, h7], [wu32 ((v0 : Int) + h0), wu32 ((v1 : Int) + h1), wu32 ((v2 : Int) + h2), wu32 ((v3 : Int) + h3), (v4 : Int), (v5 : Int), (v6 : Int), (v7 : Int)], 4)) rfl).trans ?_
      refine (loopO_inl (s' := ([(h0 : Int), h1, h2, h3, h4, h5, h6, h7], [wu32 ((v0 : Int) + h0), wu32 ((v1 : Int) + h1), wu32 ((v2 : Int) + h2), wu32 ((v3 : Int) + h3), wu32 ((v4 : Int) + h4), (v5 : Int), (v6 : Int), (v7 : Int)], 5)) rfl).trans ?_
      refine (loopO_inl (s' := ([(h0 : Int), h1, h2, h3, h4, h5, h6, h7], [wu32 ((v0 : Int) + h0), wu32 ((v1 : Int) + h1), wu32 ((v2 : Int) + h2), wu32 ((v3 : Int) + h3), wu32 ((v4 : Int) + h4), wu32 ((v5 : Int) + h5), (v6 : Int), (v7 : Int)], 6)) rfl).trans ?_
      refine (loopO_inl (s' := ([(h0 : Int), h1, h2, h3, h4, h5, h6, h7], [wu32 ((v0 : Int) + h0), wu32 ((v1 : Int) + h1), wu32 ((v2 : Int) + h2), wu32 ((v3 : Int) + h3), wu32 ((v4 : Int) + h4), wu32 ((v5 : Int) + h5), wu32 ((v6 : Int) + h6), (v7 : Int)], 7)) rfl).trans ?_
      refine (loopO_inl (s' := ([(h0 : Int), h1, h2, h3, h4, h5, h6, h7], [wu32 ((v0 : Int) + h0), wu32 ((v1 : Int) + h1), wu32 ((v2 : Int) + h2), wu32 ((v3 : Int) + h3), wu32 ((v4 : Int) + h4), wu32 ((v5 : Int) + h5), wu32 ((v6 : Int) + h6), wu32 ((v7 : Int) + h7)], 8)) rfl).trans ?_
      exact loopO_inr rfl
end Go.Proofs.Ytffofdfikmpanaa.A

namespace Go.Proofs.Ytffofdfikmpanaa.A
set_option linter.unusedVariables false
set_option linter.unusedSimpArgs false
set_option maxRecDepth 10000

/-- The numbers behind i blocks of L bytes. -/
def eat (tk : List Nat → List UInt8 → List Nat) (L : Nat) (s : List Nat) (b : List UInt8) : Nat → List Nat
  | 0 => s
  | i + 1 => tk (eat tk L s b i) ((b.drop (L * i)).take L)
structure Wd (k m : Nat) (s : List Nat) : Prop where
  len : s.length = m
  lt : ∀ d ∈ s, d < 2 ^ k
theorem eat_wd {k m L : Nat} {tk : List Nat → List UInt8 → List Nat} (ht : ∀ s c, c.length = L → Wd k m s → Wd k m (tk s c)) {s : List Nat} (hs : Wd k m s) {b : List UInt8} :
    ∀ {i : Nat}, L * i ≤ b.length → Wd k m (eat tk L s b i)
  | 0, _ => hs
  | i + 1, h => by
    rw [Nat.mul_add, Nat.mul_one] at h
    exact ht _ _ (by simp; omega) (eat_wd ht hs (by omega))
theorem block1_wd (s : List Nat) (c : List UInt8) (hc : c.length = 64) (h : Wd 32 5 s) : Wd 32 5 (block1 s c) := ⟨addW_len _ _ _ _, addW_lt _ _ _ _⟩
theorem block2_wd (s : List Nat) (c : List UInt8) (hc : c.length = 64) (h : Wd 32 8 s) : Wd 32 8 (block2 s c) := ⟨addW_len _ _ _ _, addW_lt _ _ _ _⟩

/-- Zeros behind the mark. -/
def zer (L r : Nat) : Nat := (L + (L - L / 8) - (r + 1) % L) % L
def pad (L : Nat) (r : List UInt8) (n : Nat) : List UInt8 := r ++ 128 :: List.replicate (zer L r.length + (L / 8 - 8)) 0 ++ beN 8 (n * 8 % 18446744073709551616)
theorem pad64_length (r : List UInt8) (n : Nat) : (pad 64 r n).length = r.length + 1 + zer 64 r.length + 8 ∧ (pad 64 r n).length % 64 = 0 := by
  have e : (pad 64 r n).length = r.length + 1 + zer 64 r.length + 8 := by simp [pad, beN_length]; omega
  refine ⟨e, ?_⟩
  rw [e]; unfold zer; omega
theorem zer64_lt (r : Nat) : zer 64 r < 64 := Nat.mod_lt _ (by decide)
theorem zer64_ne {r i : Nat} (h : i < zer 64 r) : (r + 1 + i) % 64 ≠ 56 := by unfold zer at h; omega
theorem zer64_eq (r : Nat) : (r + 1 + zer 64 r) % 64 = 56 := by unfold zer; omega
theorem zer128_lt (r : Nat) : zer 128 r < 128 := Nat.mod_lt _ (by decide)
theorem zer128_ne {r i : Nat} (h : i < zer 128 r) : (r + 1 + i) % 128 ≠ 112 := by unfold zer at h; omega
theorem zer128_eq (r : Nat) : (r + 1 + zer 128 r) % 128 = 112 := by unfold zer; omega
theorem pad128_length (r : List UInt8) (n : Nat) : (pad 128 r n).length = r.length + 1 + zer 128 r.length + 16 ∧ (pad 128 r n).length % 128 = 0 := by
  have e : (pad 128 r n).length = r.length + 1 + zer 128 r.length + 16 := by simp [pad, beN_length]; omega
  refine ⟨e, ?_⟩
  rw [e]; unfold zer; omega

/-- Words as bytes, the highest first. -/
def spellB (q : Nat) (ws : List Nat) (many : Nat) : List UInt8 := (List.range many).map fun i => UInt8.ofNat (ws.getD (i / q) 0 / 2 ^ (8 * (q - 1 - i % q)))
@[simp] theorem spellB_length (q : Nat) (ws : List Nat) (many : Nat) : (spellB q ws many).length = many := by simp [spellB]
theorem spellB_set (q : Nat) (ws : List Nat) (many i : Nat) (h : i < many) : (spellB q ws i ++ List.replicate (many - i) 0).set i (UInt8.ofNat (ws.getD (i / q) 0 / 2 ^ (8 * (q - 1 - i % q)))) = spellB q ws (i + 1) ++ List.replicate (many - (i + 1)) 0 := by
  rw [show many - i = (many - (i + 1)) + 1 by omega, List.replicate_succ, List.set_append_right _ _ (by simp)]
  simp only [spellB_length, Nat.sub_self, List.set_cons_zero]
  simp [spellB, List.range_succ]

/-- The lowest eight bits of a shifted word. -/
theorem byte_of (x n : Nat) : V.int .u8 (wu8 (((x / 2 ^ n : Nat)) : Int)) = byteV (UInt8.ofNat (x / 2 ^ n)) := by
  unfold byteV
  congr 1
theorem all_bytesV (b : List UInt8) : all (bytesV b) = bytesV b := all_eq _
end Go.Proofs.Ytffofdfikmpanaa.A

namespace Go.Proofs.Ytffofdfikmpanaa.A
set_option linter.unusedVariables false
set_option linter.unusedSimpArgs false
set_option maxRecDepth 10000

theorem five_natI {s : List Nat} (h : s.length = 5) : [(natI s).getD 0 0, (natI s).getD 1 0, (natI s).getD 2 0, (natI s).getD 3 0, (natI s).getD 4 0] = natI s := by
  obtain ⟨a, b, c, d, e, rfl⟩ := five h; rfl
theorem five_numV {s : List Nat} (h : s.length = 5) : [V.int .u32 ((natI s).getD 0 0), V.int .u32 ((natI s).getD 1 0), V.int .u32 ((natI s).getD 2 0), V.int .u32 ((natI s).getD 3 0), V.int .u32 ((natI s).getD 4 0)] = numV .u32 s := by
  obtain ⟨a, b, c, d, e, rfl⟩ := five h; rfl

theorem old_1_eq {s : List Nat} {b : List UInt8} (hs : Wd 32 5 s) (hb : b.length = 64) : F_hash_old_1 (natI s, bytesV b) = some (natI (block1 s b)) := by
  unfold F_hash_old_1
  simp only [List.getD_cons_zero, List.getD_cons_succ]
  rw [if_pos (by rw [bytesV_length, hb]; exact Nat.le_refl _), intsOf_bytesV hb, Option.bind_some, arrV_intB hb, List.take_of_length_le (by rw [bytesV_length]; omega), five_natI hs.len, sha1_block_eq s b hs.len hs.lt hb, Option.bind_some,
    five_natI (block1_wd s b hb hs).len]

set_option maxHeartbeats 1000000 in
theorem spell32_eq {s : List Nat} (hw : ∀ d ∈ s, d < 2 ^ 32) (many : Nat) (hm : many ≤ 4 * s.length) (hn : s.length ≤ 1000) : F_hash_spell_uint32_ (numV .u32 s, 4, (many : Int)) = some (bytesV (spellB 4 s many)) := by
  unfold F_hash_spell_uint32_
  simp only
  rw [if_pos (by omega), Int.toNat_natCast]
  refine (congrArg (loopO _) ?_).trans (loopO_run (ι := Nat) (fun i => (numV .u32 s, 4, bytesV (spellB 4 s i ++ List.replicate (many - i) 0), (many : Int), (i : Int))) (fun _ => bytesV (spellB 4 s many)) (fun i => i ≤ many) (fun i => many - i) ?_ 0 (by omega))
  · rw [show spellB 4 s 0 ++ List.replicate (many - 0) 0 = List.replicate many 0 from rfl, bytesV_replicate]
    simp only [len, rep, List.length_replicate]; rfl
  · intro i hi
    dsimp only
    by_cases hlt : i < many
    · left
      refine ⟨i + 1, ?_, by omega, by omega, rfl⟩
      have hq : w64 (Int.tdiv (i : Int) 4) = ((i / 4 : Nat) : Int) := by rw [show Int.tdiv (i : Int) 4 = ((i / 4 : Nat) : Int) from rfl, w64_nat (by omega)]
      have hsh : w64 (8 * w64 (w64 (4 - 1) - Int.tmod (i : Int) 4)) = ((8 * (4 - 1 - i % 4) : Nat) : Int) := by
        rw [show Int.tmod (i : Int) 4 = ((i % 4 : Nat) : Int) from rfl, show w64 (4 - 1) = ((3 : Nat) : Int) from by decide +kernel, w64_lit (n := 3) (by omega) (by omega), show (8 : Int) * ((3 - i % 4 : Nat) : Int) = ((8 * (3 - i % 4) : Nat) : Int) by omega, w64_nat (by omega)]
      have hx := getD_lt (by decide) hw (i / 4)
      rw [if_pos (by simp; omega), if_neg (by omega), hq, hsh, if_pos (by omega), Int.toNat_natCast, numV_getD (by omega), Option.bind_some, int?_int, Option.bind_some, if_neg (by omega), if_neg (by omega), Int.toNat_natCast, Nat.zero_add,
        if_pos (by simp; omega), bytesV_getD (by simp; omega), Option.bind_some, wu64_nat, Nat.mod_eq_of_lt (by omega), wordShr_u64 _ _ (by omega), byte_of, show storeEl (byteV _) 0 [byteV (UInt8.ofNat (s.getD (i / 4) 0 / 2 ^ (8 * (4 - 1 - i % 4))))] = byteV (UInt8.ofNat (s.getD (i / 4) 0 / 2 ^ (8 * (4 - 1 - i % 4)))) from rfl,
        bytesV_set, spellB_set _ _ _ _ hlt, w64_inc (by omega)]
    · right
      have : i = many := by omega
      subst this
      rw [if_neg (by simp), all_bytesV]
      simp

theorem old_2_eq {s : List Nat} (hs : Wd 32 5 s) : F_hash_old_2 (natI s) = some (bytesV (spellB 4 s 20)) := by
  unfold F_hash_old_2
  rw [five_numV hs.len, show (20 : Int) = ((20 : Nat) : Int) from rfl, spell32_eq hs.lt 20 (by rw [hs.len]; omega) (by rw [hs.len]; omega), Option.bind_some]

theorem drop_take {r : List UInt8} {L i : Nat} : (bytesV (r.drop (L * i))).take L = bytesV ((r.drop (L * i)).take L) := bytesV_take _ _
theorem drop_next {r : List UInt8} {L i : Nat} : List.take ((bytesV (r.drop (L * i))).length - L) (List.drop L (bytesV (r.drop (L * i)))) = bytesV (r.drop (L * (i + 1))) := by
  rw [bytesV_drop, List.drop_drop, List.take_of_length_le (by simp; omega), Nat.mul_add, Nat.mul_one]

set_option maxHeartbeats 1000000 in
theorem eng5_write_eq {s : List Nat} (hs : Wd 32 5 s) (r b : List UInt8) (n : Nat) (hr : r.length + b.length ≤ 2147483648) (hn : n < 18446744073709551616) :
    F_hash_engine__5_uint32__write ((natI s, bytesV r, (n : Int), 64, 8, PUnit.unit, PUnit.unit), bytesV b) =
      some (PUnit.unit, (natI (eat block1 64 s (r ++ b) ((r ++ b).length / 64)), bytesV ((r ++ b).drop (64 * ((r ++ b).length / 64))), (((n + b.length) % 18446744073709551616 : Nat) : Int), 64, 8, PUnit.unit, PUnit.unit), PUnit.unit) := by
  unfold F_hash_engine__5_uint32__write
  simp only
  rw [if_pos (by simp), all_bytesV, if_pos (by rw [bytesV_length, bytesV_length]; exact hr), ← bytesV_append]
  generalize hc : r ++ b = c
  have hcl : c.length ≤ 2147483648 := by rw [← hc, List.length_append]; exact hr
  have hnn : wu64 ((n : Int) + wu64 (len (bytesV b))) = (((n + b.length) % 18446744073709551616 : Nat) : Int) := by
    simp only [len, bytesV_length, wu64_eq]; omega
  rw [hnn]
  generalize hm : (n + b.length) % 18446744073709551616 = m
  have hwd : ∀ {i}, 64 * i ≤ c.length → Wd 32 5 (eat block1 64 s c i) := fun h => eat_wd block1_wd hs h
  refine (loopO_run (ι := Nat) (fun i => (PUnit.unit, (natI (eat block1 64 s c i)).getD 0 0, (natI (eat block1 64 s c i)).getD 1 0, (natI (eat block1 64 s c i)).getD 2 0, (natI (eat block1 64 s c i)).getD 3 0, (natI (eat block1 64 s c i)).getD 4 0, bytesV (c.drop (64 * i)), (m : Int), 64, 8, PUnit.unit, PUnit.unit))
    (fun _ => (PUnit.unit, (natI (eat block1 64 s c (c.length / 64)), bytesV (c.drop (64 * (c.length / 64))), (m : Int), 64, 8, PUnit.unit, PUnit.unit), PUnit.unit)) (fun i => 64 * i ≤ c.length) (fun i => c.length - 64 * i) ?_ 0 (by omega))
  intro i hi
  dsimp only
  have hl : (bytesV (c.drop (64 * i))).length = c.length - 64 * i := by rw [bytesV_length, List.length_drop]
  by_cases hlt : 64 * i + 64 ≤ c.length
  · left
    refine ⟨i + 1, ?_, by omega, by omega, rfl⟩
    simp only [List.getD_cons_zero, List.getD_cons_succ]
    rw [if_pos (by simp only [len, hl, decide_eq_true_eq]; omega), if_pos (by omega), if_pos ⟨by omega, by rw [hl]; simp; omega⟩, five_natI (hwd hi).len, List.drop_zero, show Int.toNat 64 = 64 from rfl, drop_take,
      old_1_eq (hwd hi) (by simp; omega), Option.bind_some, if_pos (by omega), if_pos ⟨by rw [hl]; omega, Nat.le_refl _⟩, drop_next]
    rfl
  · right
    have : i = c.length / 64 := by omega
    subst this
    rw [if_neg (by simp only [len, hl, decide_eq_true_eq]; omega), five_natI (hwd hi).len]

set_option maxHeartbeats 2000000 in
theorem eng5_sum_eq {s : List Nat} (hs : Wd 32 5 s) (r : List UInt8) (n : Nat) (hr : r.length ≤ 2147480000) (hn : n < 18446744073709551616) :
    F_hash_engine__5_uint32__sum (natI s, bytesV r, (n : Int), 64, 8, PUnit.unit, PUnit.unit) =
      some (bytesV (spellB 4 (eat block1 64 s (pad 64 r n) ((pad 64 r n).length / 64)) 20), natI s, bytesV r, (n : Int), 64, 8, PUnit.unit, PUnit.unit) := by
  unfold F_hash_engine__5_uint32__sum
  simp only
  rw [if_pos (by rw [bytesV_length]; omega), if_pos (by rw [bytesV_length]; omega)]
  have hz := zer64_lt r.length
  obtain ⟨hpl, hpm⟩ := pad64_length r n
  generalize hR : ((bytesV (spellB 4 (eat block1 64 s (pad 64 r n) ((pad 64 r n).length / 64)) 20), natI s, bytesV r, (n : Int), 64, 8, PUnit.unit, PUnit.unit) : (List V) × ((List Int) × ((List V) × (Int × (Int × (Int × (Unit × Unit))))))) = R
  refine (congrArg (loopO _) ?_).trans (loopO_run (ι := Nat) (fun i => (PUnit.unit, bytesV (r ++ 128 :: List.replicate i 0), (natI s).getD 0 0, (natI s).getD 1 0, (natI s).getD 2 0, (natI s).getD 3 0, (natI s).getD 4 0, bytesV r, (n : Int), 64, 8, PUnit.unit, PUnit.unit))
    (fun _ => R) (fun i => i ≤ zer 64 r.length) (fun i => zer 64 r.length - i) ?_ 0 (by omega))
  · simp only [List.replicate_zero, bytesV_append]; rfl
  · intro i hi
    dsimp only
    have hl : len (bytesV (r ++ 128 :: List.replicate i 0)) = ((r.length + 1 + i : Nat) : Int) := by simp [len]; omega
    have h56 : w64 (64 - 8) = ((56 : Nat) : Int) := by decide +kernel
    rw [if_neg (by omega), hl, h56, show Int.tmod ((r.length + 1 + i : Nat) : Int) 64 = (((r.length + 1 + i) % 64 : Nat) : Int) from rfl]
    by_cases hlt : i < zer 64 r.length
    · left
      refine ⟨i + 1, ?_, by omega, by omega, rfl⟩
      have hne := zer64_ne hlt
      rw [if_pos (by simp only [bne_iff_ne]; omega), all_bytesV, if_pos (by simp; omega)]
      simp only [Option.some.injEq, Sum.inl.injEq, Prod.mk.injEq, and_true, true_and]
      rw [List.replicate_succ', ← List.cons_append, ← List.append_assoc, bytesV_append _ [0]]; rfl
    · right
      have hz2 : i = zer 64 r.length := by omega
      subst hz2
      have he := zer64_eq r.length
      rw [if_neg (by simp only [bne_iff_ne]; omega), show w64 (8 - 8) = ((0 : Nat) : Int) from by decide +kernel, if_pos (by omega), Int.toNat_natCast]
      simp only [all_bytesV, rep, List.replicate_zero, List.append_nil, List.length_nil]
      rw [if_pos (by simp; omega)]
      have hmany : wu64 ((n : Int) * 8) = ((n * 8 % 18446744073709551616 : Nat) : Int) := by simp only [wu64_eq]; omega
      rw [hmany]
      generalize hM : n * 8 % 18446744073709551616 = M
      have hMl : M < 18446744073709551616 := by omega
      refine bind_to (v := R) ?_ rfl
      refine (congrArg (loopO _) ?_).trans (loopO_run (ι := Nat) (fun j => (bytesV ((r ++ 128 :: List.replicate (zer 64 r.length) 0) ++ (beN 8 M).take j), (M : Int), (56 : Int) - 8 * (j : Int))) (fun _ => R) (fun j => j ≤ 8) (fun j => 8 - j) ?_ 0 (by omega))
      · simp only [List.take_zero, List.append_nil]; rfl
      · intro j hj
        dsimp only
        by_cases hlt : j < 8
        · left
          refine ⟨j + 1, ?_, by omega, by omega, rfl⟩
          have h1 : (56 : Int) - 8 * (j : Int) = ((8 * (7 - j) : Nat) : Int) := by omega
          rw [h1, if_pos (by simp only [decide_eq_true_eq]; omega), if_neg (by omega), all_bytesV, if_pos (by simp [beN_length]; omega), wordShr_u64 _ _ (by omega), byte_of]
          have h2 : w64 (((8 * (7 - j) : Nat) : Int) - 8) = (56 : Int) - 8 * ((j + 1 : Nat) : Int) := by
            rcases (by omega : j < 7 ∨ j = 7) with h | h
            · rw [show ((8 * (7 - j) : Nat) : Int) - 8 = ((8 * (6 - j) : Nat) : Int) by omega, w64_nat (by omega)]; omega
            · subst h; decide +kernel
          rw [h2]
          have h3 : (beN 8 M)[j]? = some (UInt8.ofNat (M / 2 ^ (8 * (7 - j)))) := by
            rw [beN_get hlt, show 8 - 1 - j = 7 - j by omega, show (256 : Nat) = 2 ^ 8 by decide, ← Nat.pow_mul]
          rw [List.take_add_one, h3, Option.toList_some, ← List.append_assoc, bytesV_append _ [_]]
          rfl
        · right
          have hj8 : j = 8 := by omega
          subst hj8
          rw [if_neg (by simp), List.take_of_length_le (by rw [beN_length]; omega)]
          have hp : (r ++ 128 :: List.replicate (zer 64 r.length) 0) ++ beN 8 M = pad 64 r n := by
            unfold pad; rw [hM]; simp
          rw [hp]
          generalize pad 64 r n = c at hpl hpm hR
          have hwd : ∀ {i}, 64 * i ≤ c.length → Wd 32 5 (eat block1 64 s c i) := fun h => eat_wd block1_wd hs h
          refine bind_to (v := R) ?_ rfl
          subst hR
          simp only [List.getD_cons_zero, List.getD_cons_succ]
          rw [five_natI hs.len]
          refine (loopO_run (ι := Nat) (fun i => (PUnit.unit, bytesV (c.drop (64 * i)), natI (eat block1 64 s c i), (natI s).getD 0 0, (natI s).getD 1 0, (natI s).getD 2 0, (natI s).getD 3 0, (natI s).getD 4 0, bytesV r, (n : Int), 64, 8, PUnit.unit, PUnit.unit))
            (fun _ => (bytesV (spellB 4 (eat block1 64 s c (c.length / 64)) 20), natI s, bytesV r, (n : Int), 64, 8, PUnit.unit, PUnit.unit)) (fun i => 64 * i ≤ c.length) (fun i => c.length - 64 * i) ?_ 0 (by omega))
          intro i hi
          dsimp only
          have hl : (bytesV (c.drop (64 * i))).length = c.length - 64 * i := by rw [bytesV_length, List.length_drop]
          by_cases hlt : 64 * i < c.length
          · left
            have hlt : 64 * i + 64 ≤ c.length := by omega
            refine ⟨i + 1, ?_, by omega, by omega, rfl⟩
            rw [if_pos (by simp only [len, hl, decide_eq_true_eq]; omega), if_pos (by omega), if_pos ⟨by omega, by rw [hl]; simp; omega⟩, five_natI (hwd hi).len, List.drop_zero, show Int.toNat 64 = 64 from rfl, drop_take,
              old_1_eq (hwd hi) (by simp; omega), Option.bind_some, if_pos (by omega), if_pos ⟨by rw [hl]; omega, Nat.le_refl _⟩, Nat.zero_add, drop_next, five_natI (block1_wd _ _ (by simp; omega) (hwd hi)).len]
            rfl
          · right
            have : i = c.length / 64 := by omega
            subst this
            rw [if_neg (by simp only [len, hl, decide_eq_true_eq]; omega), five_natI (hwd hi).len, old_2_eq (hwd hi), Option.bind_some, Option.bind_some, five_natI hs.len]
end Go.Proofs.Ytffofdfikmpanaa.A

namespace Go.Proofs.Ytffofdfikmpanaa.A
set_option linter.unusedVariables false
set_option linter.unusedSimpArgs false
set_option maxRecDepth 10000

theorem Wd.fit {k m : Nat} {s : List Nat} (h : Wd k m s) : fitI (natI s) 0 m = natI s := fitI_natI h.len
theorem arrV_natI {k : IntKind} {s : List Nat} {m : Nat} (h : s.length = m) : arrV k (natI s) 0 m = numV k s := by
  refine List.ext_getElem? fun i => ?_
  by_cases hi : i < m
  · rw [arrV_get hi, Nat.zero_add, natI_getD, numV_getD (by omega)]
  · rw [List.getElem?_eq_none (by rw [arrV_length]; omega), List.getElem?_eq_none (by simp; omega)]

theorem short_1_eq {s : List Nat} {b : List UInt8} (hs : Wd 32 8 s) (hb : b.length = 64) : F_hash_short_1 (natI s, bytesV b) = some (natI (block2 s b)) := by
  unfold F_hash_short_1
  simp only [hs.fit]
  rw [if_pos (by rw [bytesV_length, hb]; exact Nat.le_refl _), intsOf_bytesV hb, Option.bind_some, arrV_intB hb, List.take_of_length_le (by rw [bytesV_length]; omega), sha256_block_eq s b hs.len hs.lt hb, Option.bind_some,
    (block2_wd s b hb hs).fit]

set_option maxHeartbeats 1000000 in
theorem eng8_write_eq {s : List Nat} (hs : Wd 32 8 s) (r b : List UInt8) (n : Nat) (mn : Int) (hr : r.length + b.length ≤ 2147483648) (hn : n < 18446744073709551616) :
    F_hash_engine__8_uint32__write ((natI s, bytesV r, (n : Int), 64, 8, PUnit.unit, mn), bytesV b) =
      some (PUnit.unit, (natI (eat block2 64 s (r ++ b) ((r ++ b).length / 64)), bytesV ((r ++ b).drop (64 * ((r ++ b).length / 64))), (((n + b.length) % 18446744073709551616 : Nat) : Int), 64, 8, PUnit.unit, mn), PUnit.unit) := by
  unfold F_hash_engine__8_uint32__write
  simp only [hs.fit]
  rw [if_pos (by simp), all_bytesV, if_pos (by rw [bytesV_length, bytesV_length]; exact hr), ← bytesV_append]
  generalize hc : r ++ b = c
  have hcl : c.length ≤ 2147483648 := by rw [← hc, List.length_append]; exact hr
  have hnn : wu64 ((n : Int) + wu64 (len (bytesV b))) = (((n + b.length) % 18446744073709551616 : Nat) : Int) := by
    simp only [len, bytesV_length, wu64_eq]; omega
  rw [hnn]
  generalize hm : (n + b.length) % 18446744073709551616 = m
  have hwd : ∀ {i}, 64 * i ≤ c.length → Wd 32 8 (eat block2 64 s c i) := fun h => eat_wd block2_wd hs h
  refine (loopO_run (ι := Nat) (fun i => (PUnit.unit, natI (eat block2 64 s c i), bytesV (c.drop (64 * i)), (m : Int), 64, 8, PUnit.unit, mn))
    (fun _ => (PUnit.unit, (natI (eat block2 64 s c (c.length / 64)), bytesV (c.drop (64 * (c.length / 64))), (m : Int), 64, 8, PUnit.unit, mn), PUnit.unit)) (fun i => 64 * i ≤ c.length) (fun i => c.length - 64 * i) ?_ 0 (by omega))
  intro i hi
  dsimp only
  have hl : (bytesV (c.drop (64 * i))).length = c.length - 64 * i := by rw [bytesV_length, List.length_drop]
  simp only [(hwd hi).fit]
  by_cases hlt : 64 * i + 64 ≤ c.length
  · left
    refine ⟨i + 1, ?_, by omega, by omega, by first | rfl | trivial⟩
    rw [if_pos (by simp only [len, hl, decide_eq_true_eq]; omega), if_pos (by omega), if_pos ⟨by omega, by rw [hl]; simp; omega⟩, List.drop_zero, show Int.toNat 64 = 64 from rfl, drop_take,
      short_1_eq (hwd hi) (by simp; omega), Option.bind_some, if_pos (by omega), if_pos ⟨by rw [hl]; omega, Nat.le_refl _⟩, drop_next, (block2_wd _ _ (by simp; omega) (hwd hi)).fit]
    rfl
  · right
    have : i = c.length / 64 := by omega
    subst this
    rw [if_neg (by simp only [len, hl, decide_eq_true_eq]; omega)]

set_option maxHeartbeats 2000000 in
theorem eng8_sum_eq {s : List Nat} (hs : Wd 32 8 s) (r : List UInt8) (n : Nat) (mn : Nat) (hmn : mn ≤ 32) (hr : r.length ≤ 2147480000) (hn : n < 18446744073709551616) :
    F_hash_engine__8_uint32__sum (natI s, bytesV r, (n : Int), 64, 8, PUnit.unit, (mn : Int)) =
      some (bytesV (spellB 4 (eat block2 64 s (pad 64 r n) ((pad 64 r n).length / 64)) mn), natI s, bytesV r, (n : Int), 64, 8, PUnit.unit, (mn : Int)) := by
  unfold F_hash_engine__8_uint32__sum
  simp only [hs.fit]
  rw [if_pos (by rw [bytesV_length]; omega), if_pos (by rw [bytesV_length]; omega)]
  have hz := zer64_lt r.length
  obtain ⟨hpl, hpm⟩ := pad64_length r n
  generalize hR : ((bytesV (spellB 4 (eat block2 64 s (pad 64 r n) ((pad 64 r n).length / 64)) mn), natI s, bytesV r, (n : Int), 64, 8, PUnit.unit, (mn : Int)) : (List V) × ((List Int) × ((List V) × (Int × (Int × (Int × (Unit × Int))))))) = R
  refine (congrArg (loopO _) ?_).trans (loopO_run (ι := Nat) (fun i => (PUnit.unit, bytesV (r ++ 128 :: List.replicate i 0), natI s, bytesV r, (n : Int), 64, 8, PUnit.unit, (mn : Int)))
    (fun _ => R) (fun i => i ≤ zer 64 r.length) (fun i => zer 64 r.length - i) ?_ 0 (by omega))
  · simp only [List.replicate_zero, bytesV_append]; rfl
  · intro i hi
    dsimp only
    have hl : len (bytesV (r ++ 128 :: List.replicate i 0)) = ((r.length + 1 + i : Nat) : Int) := by simp [len]; omega
    have h56 : w64 (64 - 8) = ((56 : Nat) : Int) := by decide +kernel
    simp only [hs.fit]
    rw [if_neg (by omega), hl, h56, show Int.tmod ((r.length + 1 + i : Nat) : Int) 64 = (((r.length + 1 + i) % 64 : Nat) : Int) from rfl]
    by_cases hlt : i < zer 64 r.length
    · left
      refine ⟨i + 1, ?_, by omega, by omega, by first | rfl | trivial⟩
      have hne := zer64_ne hlt
      rw [if_pos (by simp only [bne_iff_ne]; omega), all_bytesV, if_pos (by simp; omega)]
      simp only [Option.some.injEq, Sum.inl.injEq, Prod.mk.injEq, and_true, true_and]
      rw [List.replicate_succ', ← List.cons_append, ← List.append_assoc, bytesV_append _ [0]]; rfl
    · right
      have hz2 : i = zer 64 r.length := by omega
      subst hz2
      have he := zer64_eq r.length
      rw [if_neg (by simp only [bne_iff_ne]; omega), show w64 (8 - 8) = ((0 : Nat) : Int) from by decide +kernel, if_pos (by omega), Int.toNat_natCast]
      simp only [all_bytesV, rep, List.replicate_zero, List.append_nil, List.length_nil]
      rw [if_pos (by simp; omega)]
      have hmany : wu64 ((n : Int) * 8) = ((n * 8 % 18446744073709551616 : Nat) : Int) := by simp only [wu64_eq]; omega
      rw [hmany]
      generalize hM : n * 8 % 18446744073709551616 = M
      have hMl : M < 18446744073709551616 := by omega
      refine bind_to (v := R) ?_ rfl
      refine (congrArg (loopO _) ?_).trans (loopO_run (ι := Nat) (fun j => (bytesV ((r ++ 128 :: List.replicate (zer 64 r.length) 0) ++ (beN 8 M).take j), (M : Int), (56 : Int) - 8 * (j : Int))) (fun _ => R) (fun j => j ≤ 8) (fun j => 8 - j) ?_ 0 (by omega))
      · simp only [List.take_zero, List.append_nil]; rfl
      · intro j hj
        dsimp only
        by_cases hlt : j < 8
        · left
          refine ⟨j + 1, ?_, by omega, by omega, by first | rfl | trivial⟩
          have h1 : (56 : Int) - 8 * (j : Int) = ((8 * (7 - j) : Nat) : Int) := by omega
          rw [h1, if_pos (by simp only [decide_eq_true_eq]; omega), if_neg (by omega), all_bytesV, if_pos (by simp [beN_length]; omega), wordShr_u64 _ _ (by omega), byte_of]
          have h2 : w64 (((8 * (7 - j) : Nat) : Int) - 8) = (56 : Int) - 8 * ((j + 1 : Nat) : Int) := by
            rcases (by omega : j < 7 ∨ j = 7) with h | h
            · rw [show ((8 * (7 - j) : Nat) : Int) - 8 = ((8 * (6 - j) : Nat) : Int) by omega, w64_nat (by omega)]; omega
            · subst h; decide +kernel
          rw [h2]
          have h3 : (beN 8 M)[j]? = some (UInt8.ofNat (M / 2 ^ (8 * (7 - j)))) := by
            rw [beN_get hlt, show 8 - 1 - j = 7 - j by omega, show (256 : Nat) = 2 ^ 8 by decide, ← Nat.pow_mul]
          rw [List.take_add_one, h3, Option.toList_some, ← List.append_assoc, bytesV_append _ [_]]
          rfl
        · right
          have hj8 : j = 8 := by omega
          subst hj8
          rw [if_neg (by simp), List.take_of_length_le (by rw [beN_length]; omega)]
          have hp : (r ++ 128 :: List.replicate (zer 64 r.length) 0) ++ beN 8 M = pad 64 r n := by
            unfold pad; rw [hM]; simp
          rw [hp]
          generalize pad 64 r n = c at hpl hpm hR
          have hwd : ∀ {i}, 64 * i ≤ c.length → Wd 32 8 (eat block2 64 s c i) := fun h => eat_wd block2_wd hs h
          refine bind_to (v := R) ?_ rfl
          subst hR
          refine (loopO_run (ι := Nat) (fun i => (PUnit.unit, bytesV (c.drop (64 * i)), natI (eat block2 64 s c i), natI s, bytesV r, (n : Int), 64, 8, PUnit.unit, (mn : Int)))
            (fun _ => (bytesV (spellB 4 (eat block2 64 s c (c.length / 64)) mn), natI s, bytesV r, (n : Int), 64, 8, PUnit.unit, (mn : Int))) (fun i => 64 * i ≤ c.length) (fun i => c.length - 64 * i) ?_ 0 (by omega))
          intro i hi
          dsimp only
          have hl : (bytesV (c.drop (64 * i))).length = c.length - 64 * i := by rw [bytesV_length, List.length_drop]
          simp only [(hwd hi).fit, hs.fit]
          by_cases hlt : 64 * i < c.length
          · left
            have hlt : 64 * i + 64 ≤ c.length := by omega
            refine ⟨i + 1, ?_, by omega, by omega, by first | rfl | trivial⟩
            rw [if_pos (by simp only [len, hl, decide_eq_true_eq]; omega), if_pos (by omega), if_pos ⟨by omega, by rw [hl]; simp; omega⟩, List.drop_zero, show Int.toNat 64 = 64 from rfl, drop_take,
              short_1_eq (hwd hi) (by simp; omega), Option.bind_some, if_pos (by omega), if_pos ⟨by rw [hl]; omega, Nat.le_refl _⟩, Nat.zero_add, drop_next, (block2_wd _ _ (by simp; omega) (hwd hi)).fit]
            rfl
          · right
            have : i = c.length / 64 := by omega
            subst this
            rw [if_neg (by simp only [len, hl, decide_eq_true_eq]; omega), arrV_natI (hwd hi).len, spell32_eq (hwd hi).lt mn (by rw [(hwd hi).len]; omega) (by rw [(hwd hi).len]; omega), Option.bind_some, Option.bind_some]
end Go.Proofs.Ytffofdfikmpanaa.A

namespace Go.Proofs.Ytffofdfikmpanaa.A
set_option linter.unusedVariables false
set_option linter.unusedSimpArgs false
set_option maxRecDepth 10000

/-- What an engine tells of bytes that were written at once. -/
def digest (tk : List Nat → List UInt8 → List Nat) (L q : Nat) (s : List Nat) (b : List UInt8) (mn : Nat) : List UInt8 :=
  spellB q (eat tk L (eat tk L s b (b.length / L)) (pad L (b.drop (L * (b.length / L))) b.length) ((pad L (b.drop (L * (b.length / L))) b.length).length / L)) mn
@[simp] theorem digest_length (tk : List Nat → List UInt8 → List Nat) (L q : Nat) (s : List Nat) (b : List UInt8) (mn : Nat) : (digest tk L q s b mn).length = mn := by simp [digest]
def st1 : List Nat := [1732584193, 4023233417, 2562383102, 271733878, 3285377520]
def st2 : List Nat := [1779033703, 3144134277, 1013904242, 2773480762, 1359893119, 2600822924, 528734635, 1541459225]
def st22 : List Nat := [3238371032, 914150663, 812702999, 4144912697, 4290775857, 1750603025, 1694076839, 3204075428]
theorem st1_wd : Wd 32 5 st1 := ⟨rfl, by decide⟩
theorem st2_wd : Wd 32 8 st2 := ⟨rfl, by decide⟩
theorem st22_wd : Wd 32 8 st22 := ⟨rfl, by decide⟩

theorem hash_sum1 (b : List UInt8) (hb : b.length ≤ 2147480000) : F_hash_Sum (2, bytesV b) = some (bytesV (digest block1 64 4 st1 b 20), 0) := by
  rw [F_hash_Sum_eq]; unfold B_hash_Sum
  simp only
  have hw := eng5_write_eq st1_wd [] b 0 (by simp; omega) (by omega)
  rw [List.nil_append, Nat.zero_add, Nat.mod_eq_of_lt (by omega)] at hw
  have h1 : Wd 32 5 (eat block1 64 st1 b (b.length / 64)) := eat_wd block1_wd st1_wd (by omega)
  have hs := eng5_sum_eq h1 (b.drop (64 * (b.length / 64))) b.length (by simp; omega) (by omega)
  rw [if_pos (by rfl), show F_sha1_Start PUnit.unit = some (natI st1) from rfl, Option.bind_some, five_natI st1_wd.len]
  refine bind_to (bind_to hw rfl) ?_
  dsimp only
  rw [five_natI h1.len]
  exact bind_to hs rfl

theorem hash_sum2 (b : List UInt8) (hb : b.length ≤ 2147480000) : F_hash_Sum (8, bytesV b) = some (bytesV (digest block2 64 4 st2 b 32), 0) := by
  rw [F_hash_Sum_eq]; unfold B_hash_Sum
  simp only
  have hw := eng8_write_eq st2_wd [] b 0 32 (by simp; omega) (by omega)
  rw [List.nil_append, Nat.zero_add, Nat.mod_eq_of_lt (by omega)] at hw
  have h1 : Wd 32 8 (eat block2 64 st2 b (b.length / 64)) := eat_wd block2_wd st2_wd (by omega)
  have hs := eng8_sum_eq h1 (b.drop (64 * (b.length / 64))) b.length 32 (by omega) (by simp; omega) (by omega)
  rw [if_neg (by decide)]
  refine bind_to (v := .inl (8, true)) rfl ?_
  dsimp only
  rw [if_pos rfl, show F_hash_Size 8 = some 32 from rfl, Option.bind_some, show F_sha256_Start ((8 : Int) == 8) = some (natI st2) from rfl, Option.bind_some, st2_wd.fit]
  refine bind_to (bind_to hw rfl) ?_
  dsimp only
  rw [h1.fit, h1.fit]
  exact bind_to hs rfl
end Go.Proofs.Ytffofdfikmpanaa.A

namespace Go.Proofs.Ytffofdfikmpanaa.A
set_option linter.unusedVariables false
set_option linter.unusedSimpArgs false
set_option maxRecDepth 10000

/-! ### What is parsed is emitted as it was -/

theorem mpiT_inv {r r' : List UInt8} {v : Nat} (h : mpiT r = .inr (v, r')) : r = mpiB v ++ r' ∧ bitlen v ≤ 16384 := by
  unfold mpiT at h
  split at h
  · cases h
  split at h
  · cases h
  split at h
  · cases h
  split at h
  · cases h
  rename_i h1 h2 h3 h4
  simp only [Sum.inr.injEq, Prod.mk.injEq] at h
  obtain ⟨hv, hr⟩ := h
  generalize hk : beval (r.take 2) = n at h2 h3 h4 hv hr
  have h5 : bitlen v = n := by rw [← hv]; exact Decidable.not_not.1 h4
  have e1 : beN 2 n = r.take 2 := by
    have := beN_beval (r.take 2)
    rw [List.length_take, Nat.min_eq_left (by omega), hk] at this
    exact this
  have e2 : be v = (r.drop 2).take ((n + 7) / 8) := by
    have := beN_beval ((r.drop 2).take ((n + 7) / 8))
    rw [List.length_take, Nat.min_eq_left (by omega), hv] at this
    unfold be
    rw [h5]; exact this
  refine ⟨?_, by omega⟩
  rw [mpiB, h5, e1, e2, ← hr, List.append_assoc, List.take_append_drop, List.take_append_drop]
theorem mpiAll2_inv {m : List UInt8} {l : List Nat} (h : mpiAll 2 m = .inr l) : ∃ a b, l = [a, b] ∧ m = mpiB a ++ mpiB b ∧ bitlen a ≤ 16384 ∧ bitlen b ≤ 16384 := by
  unfold mpiAll at h
  split at h
  · cases h
  rename_i a r1 h1
  split at h
  · cases h
  rename_i l1 h2
  unfold mpiAll at h2
  split at h2
  · cases h2
  rename_i b r2 h3
  split at h2
  · cases h2
  rename_i l2 h4
  unfold mpiAll at h4
  split at h4
  · rename_i hr
    cases h4; cases h2; cases h
    obtain ⟨e1, b1⟩ := mpiT_inv h1
    obtain ⟨e2, b2⟩ := mpiT_inv h3
    rw [hr, List.append_nil] at e2
    exact ⟨a, b, rfl, by rw [e1, e2], b1, b2⟩
  · cases h4
theorem mpiAll_ne0 : ∀ (n : Nat) (r : List UInt8), mpiAll n r ≠ .inl 0 := by
  intro n
  induction n with
  | zero => intro r; unfold mpiAll; split <;> simp
  | succ n ih =>
    intro r
    unfold mpiAll
    split
    · rename_i e he
      unfold mpiT at he
      repeat' split at he
      all_goals first | (cases he; simp) | cases he
    · rename_i v r' _
      split
      · rename_i e he
        intro h
        cases h
        exact ih _ he
      · simp
theorem keyFill_ne0 {ver : Int} {cr : Nat} {alg : Int} {m : List UInt8} : keyFill ver cr alg m ≠ .inl 0 := by
  unfold keyFill
  split
  · split <;> simp
  · split
    · rename_i e he
      intro h; cases h
      exact mpiAll_ne0 _ _ he
    · simp
theorem keyParse_ne0 (b : List UInt8) : keyParse b ≠ .inl 0 := by
  unfold keyParse
  repeat' split
  all_goals first | exact keyFill_ne0 | simp
theorem fill_inv {ver : Int} {cr : Nat} {alg : Int} {m : List UInt8} {k : KeyM} (hv : ver = 4 ∨ ver = 6) (ha : alg = 1 ∨ alg = 27) (hc : cr < 4294967296) (h : keyFill ver cr alg m = .inr k) :
    k.Ok ∧ k.may ∧ k.ver = ver ∧ k.cr = cr ∧ k.alg = alg ∧ k.mat = m := by
  unfold keyFill at h
  split at h
  · rename_i h27
    split at h
    · rename_i hm
      cases h
      exact ⟨⟨by simp only; omega, by simp only; omega, hc, by simp only; omega, by simp only; omega, fun _ h => (by cases h), fun _ h => (by cases h), by simp, by simp, hm⟩,
        ⟨hv, .inr ⟨h27, rfl, rfl⟩⟩, rfl, rfl, rfl, by unfold KeyM.mat; rw [if_pos h27]⟩
    · cases h
  · rename_i h27
    split at h
    · cases h
    · rename_i l hl
      obtain ⟨a, b, rfl, e, ba, bb⟩ := mpiAll2_inv hl
      cases h
      have hlen : ∀ v, bitlen v ≤ 16384 → (dig W32 v).length ≤ 512 := fun v hv => dig_len_bits (by omega)
      have h1 := hlen _ ba
      have h2 := hlen _ bb
      have eN : val W32 (dig W32 a) = a := val_dig (by decide) _
      have eE : val W32 (dig W32 b) = b := val_dig (by decide) _
      have ha1 : alg = 1 := by omega
      refine ⟨⟨by simp only; omega, by simp only; omega, hc, by simp only; omega, by simp only; omega, isW_dig _, isW_dig _, ?_, ?_, rfl⟩, ⟨hv, .inl ⟨ha1, rfl, ?_, ?_⟩⟩, rfl, rfl, rfl, ?_⟩
      · simp only [List.getD_cons_zero]; omega
      · simp only [List.getD_cons_succ, List.getD_cons_zero]; omega
      · unfold KeyM.N; simp only [List.getD_cons_zero, eN]; exact ba
      · unfold KeyM.E; simp only [List.getD_cons_succ, List.getD_cons_zero, eE]; exact bb
      · unfold KeyM.mat KeyM.N KeyM.E
        rw [if_neg (by simp only; omega)]
        simp only [List.getD_cons_succ, List.getD_cons_zero, eN, eE]
        exact e.symm
theorem u8_of_nat (x : UInt8) : UInt8.ofNat (Int.toNat ((x.toNat : Nat) : Int)) = x := by simp
theorem parse_inv {b : List UInt8} {k : KeyM} (h : keyParse b = .inr k) : k.Ok ∧ k.may ∧ k.body = b := by
  match b, h with
  | [], h => simp [keyParse] at h
  | [x], h => unfold keyParse at h; repeat' split at h
              all_goals first | cases h | (simp at *; done)
  | [x, c1], h => unfold keyParse at h; repeat' split at h
                  all_goals first | cases h | (simp at *; done)
  | [x, c1, c2], h => unfold keyParse at h; repeat' split at h
                      all_goals first | cases h | (simp at *; done)
  | [x, c1, c2, c3], h => unfold keyParse at h; repeat' split at h
                          all_goals first | cases h | (simp at *; done)
  | [x, c1, c2, c3, c4], h => unfold keyParse at h; repeat' split at h
                              all_goals first | cases h | (simp at *; done)
  | x :: c1 :: c2 :: c3 :: c4 :: a :: t, h =>
    rw [show x :: c1 :: c2 :: c3 :: c4 :: a :: t = x :: ([c1, c2, c3, c4] ++ a :: t) from rfl] at h ⊢
    rw [keyParse_parts _ _ _ _ rfl] at h
    have hc : beval [c1, c2, c3, c4] < 4294967296 := Nat.lt_of_lt_of_le (beval_lt _) (by simp)
    have hcb : beN 4 (beval [c1, c2, c3, c4]) = [c1, c2, c3, c4] := by
      have := beN_beval [c1, c2, c3, c4]
      rwa [show [c1, c2, c3, c4].length = 4 from rfl] at this
    split at h
    · cases h
    rename_i hx
    split at h
    · cases h
    rename_i ha
    split at h
    · rename_i h6
      obtain ⟨ok, may, hv, hcr, hal, hm⟩ := fill_inv (by omega) (by omega) hc h
      refine ⟨ok, may, ?_⟩
      rw [KeyM.body_parts, hv, hcr, hal, hm, if_neg (by omega), hcb, u8_of_nat, u8_of_nat]; rfl
    · rename_i h6
      split at h
      · cases h
      rename_i hl
      split at h
      · cases h
      rename_i hn
      obtain ⟨ok, may, hv, hcr, hal, hm⟩ := fill_inv (by omega) (by omega) hc h
      refine ⟨ok, may, ?_⟩
      have hlen : k.mat.length = beval (t.take 4) := by rw [hm, List.length_drop]; exact (Decidable.not_not.1 hn).symm
      have h4 : beN 4 (beval (t.take 4)) = t.take 4 := by
        have := beN_beval (t.take 4)
        rwa [List.length_take, Nat.min_eq_left (by omega)] at this
      rw [KeyM.body_parts, hv, hcr, hal, if_pos (by omega), hlen, h4, hm, hcb, u8_of_nat, u8_of_nat, List.take_append_drop]

/-! ### Prints and IDs -/

def KeyM.print (k : KeyM) : List UInt8 := if k.ver = 6 then digest block2 64 4 st2 k.image 32 else digest block1 64 4 st1 k.image 20
theorem key_img_len {k : KeyM} (h : k.Ok) (hm : k.may) : k.image.length ≤ 4310 := by
  have := KeyM.body_length h hm
  unfold KeyM.image
  split <;> simp [beN_length] <;> omega
theorem key_print_eq (k : KeyM) (h : k.Ok) : F_key_Print k.tup = some (if k.may then (bytesV k.print, 0) else (nilV, 1)) := by
  have he := key_image_eq k h
  unfold KeyM.tup at he ⊢
  unfold F_key_Print
  simp only [fitI_intB h.p]
  rw [he]
  by_cases hm : k.may
  · have hl := key_img_len h hm
    rw [if_pos hm, if_pos hm]
    simp only [Option.bind_some, all_bytesV]
    rw [if_neg (by decide)]
    unfold KeyM.print
    by_cases h6 : k.ver = 6
    · rw [if_pos (by simp [h6]), if_pos h6, hash_sum2 _ (by omega)]; rfl
    · rw [if_neg (by simpa using h6), if_neg h6, hash_sum1 _ (by omega)]; rfl
  · rw [if_neg hm, if_neg hm]; rfl
def KeyM.id (k : KeyM) : List UInt8 := if k.ver = 4 then k.print.drop 12 else k.print.take 8
theorem KeyM.print_length {k : KeyM} : k.print.length = if k.ver = 6 then 32 else 20 := by
  unfold KeyM.print; split <;> simp
theorem KeyM.id_length {k : KeyM} (hm : k.may) : k.id.length = 8 := by
  have := @KeyM.print_length k
  unfold KeyM.id
  rcases hm.1 with h | h
  · rw [if_neg (by omega)] at this
    rw [if_pos h, List.length_drop]; omega
  · rw [if_pos (by omega)] at this
    rw [if_neg (by omega), List.length_take]; omega
theorem key_id_eq (k : KeyM) (h : k.Ok) (hm : k.may) : F_key_ID k.tup = some (intB k.id, 0) := by
  have hp := key_print_eq k h
  have hl := @KeyM.print_length k
  have hil := KeyM.id_length hm
  rw [if_pos hm] at hp
  unfold KeyM.tup at hp ⊢
  unfold F_key_ID
  simp only [fitI_intB h.p]
  rw [hp]
  simp only [Option.bind_some]
  rw [if_neg (by decide)]
  refine bind_to (v := .inl (bytesV (if k.ver = 4 then k.print.drop 12 else k.print))) ?_ ?_
  · by_cases h4 : k.ver = 4
    · rw [if_neg (by omega)] at hl
      have e1 : w64 (len (bytesV k.print) - 8) = ((12 : Nat) : Int) := by simp only [len, bytesV_length, hl]; decide +kernel
      rw [if_pos (by simp [h4]), e1, if_pos (by omega), Int.toNat_natCast, if_pos ⟨by rw [bytesV_length]; omega, Nat.le_refl _⟩, bytesV_drop, List.take_of_length_le (by simp), if_pos h4]
    · rw [if_neg (by simpa using h4), if_neg h4]
  · dsimp only
    have e : ((if k.ver = 4 then k.print.drop 12 else k.print).take 8) = k.id := by
      unfold KeyM.id
      by_cases h4 : k.ver = 4
      · rw [if_neg (by omega)] at hl
        rw [if_pos h4, if_pos h4, List.take_of_length_le (by rw [List.length_drop]; omega)]
      · rw [if_neg h4, if_neg h4]
    have hll : 8 ≤ (if k.ver = 4 then k.print.drop 12 else k.print).length := by
      split
      · rw [if_neg (by omega)] at hl
        rw [List.length_drop]; omega
      · split at hl <;> omega
    rw [if_pos ⟨by decide, by rw [bytesV_length]; exact hll⟩, List.drop_zero, bytesV_take, e, if_pos (by rw [bytesV_length, hil]; exact Nat.le_refl _), intsOf_bytesV hil, Option.bind_some, fitI_intB hil, fitI_intB hil]

theorem ofNat_getD (l : List UInt8) (i : Nat) : UInt8.ofNat (Int.toNat ((intB l).getD i 0)) = l.getD i 0 := by
  rw [intB_getD, u8_of_nat]
theorem getD8 {l : List UInt8} (h : l.length = 8) : [l.getD 0 0, l.getD 1 0, l.getD 2 0, l.getD 3 0, l.getD 4 0, l.getD 5 0, l.getD 6 0, l.getD 7 0] = l := by
  obtain ⟨a, b, c, d, e, f, g, i, rfl⟩ := eight h; rfl

set_option maxHeartbeats 1000000 in
theorem law_KeyOnly (b : List UInt8) : F_affiantlaw23_KeyOnly (bytesV b) = some true := by
  have ha : F_affiantlaw23_alive PUnit.unit = some true := alive23
  unfold F_affiantlaw23_KeyOnly
  simp only [len_bytesV, decide_eq_true_eq]
  by_cases hb : 600 < b.length
  · rw [if_pos (by omega), ha, Option.bind_some]
  rw [if_neg (by omega), key_parse_eq b (by omega)]
  cases hk : keyParse b with
  | inl e =>
    have he : e ≠ 0 := fun h => keyParse_ne0 b (h ▸ hk)
    have hz := r23_equal_eq zeroKey zeroKey ⟨by decide, by decide, by decide, by decide, by decide, fun _ h => (by cases h), fun _ h => (by cases h), by decide, by decide, by decide⟩ ⟨by decide, by decide, by decide, by decide, by decide, fun _ h => (by cases h), fun _ h => (by cases h), by decide, by decide, by decide⟩
    rw [zeroKey_tup] at hz
    simp only [parseR, zeroKey_tup, Option.bind_some]
    have hf : fitI (rep 32 0) 0 32 = rep 32 0 := by decide +kernel
    rw [if_pos (by simp only [bne_iff_ne]; omega), ha, hf]
    simp only [Option.bind_some, if_true]
    rw [hz]
    simp
  | inr k =>
    obtain ⟨ok, may, hbody⟩ := parse_inv hk
    have h1 := key_emit_eq k ok
    have h2 := key_print_eq k ok
    have h3 := key_id_eq k ok may
    rw [if_pos may] at h1 h2
    have hil := KeyM.id_length may
    have hpl := @KeyM.print_length k
    unfold KeyM.tup at h1 h2 h3
    simp only [parseR, KeyM.tup, Option.bind_some, fitI_intB ok.p]
    rw [if_neg (by decide), h1, h2, h3]
    simp only [Option.bind_some, ofNat_getD, getD8 hil, all_bytesV, unbytes_bytesV]
    refine bind_to (v := true) ?_ ?_
    · unfold KeyM.id
      by_cases h4 : k.ver = 4
      · rw [if_neg (by omega)] at hpl
        rw [if_pos (by simp [h4]), if_pos (by simp only [len_bytesV, hpl]; rfl), if_pos ⟨by rw [bytesV_length]; omega, Nat.le_refl _⟩, bytesV_drop, List.take_of_length_le (by simp), unbytes_bytesV, Option.bind_some, if_pos h4, if_neg (by simp)]
      · have h6 : k.ver = 6 := by have := may.1; omega
        rw [if_pos h6] at hpl
        rw [if_neg (by simpa using h4), if_pos (by simp [h6]), if_pos (by simp only [len_bytesV, hpl]; rfl), if_pos ⟨by decide, by rw [bytesV_length]; omega⟩, List.drop_zero, bytesV_take, unbytes_bytesV, Option.bind_some, if_neg h4]
        simp
    · rw [ha, hbody]; simp
end Go.Proofs.Ytffofdfikmpanaa.A
