/- What the printed functions answer, in plain terms. Conditions: none. -/
import Derived.Test.YtffofdfikmpanaaGreatLE
import Derived.Test.YtffofdfikmpanaaGreatG1
set_option linter.unusedVariables false
set_option linter.unusedSimpArgs false
set_option linter.constructorNameAsVariable false
set_option linter.unusedSectionVars false

namespace Go.Proofs.YtffofdfikmpanaaGreat.A
set_option linter.unusedVariables false
set_option linter.unusedSimpArgs false

/-- Numbers of one kind. -/
def numV (k : IntKind) (l : List Nat) : List V := l.map fun (n : Nat) => V.int k (n : Int)
@[simp] theorem numV_length (k : IntKind) (l : List Nat) : (numV k l).length = l.length := by simp [numV]
theorem numV_get (k : IntKind) (l : List Nat) (i : Nat) : (numV k l)[i]? = (l[i]?).map fun (n : Nat) => V.int k (n : Int) := by simp [numV]
theorem numV_append (k : IntKind) (l m : List Nat) : numV k (l ++ m) = numV k l ++ numV k m := by simp [numV]
theorem numV_take (k : IntKind) (l : List Nat) (n : Nat) : (numV k l).take n = numV k (l.take n) := by simp [numV, List.map_take]
theorem numV_drop (k : IntKind) (l : List Nat) (n : Nat) : (numV k l).drop n = numV k (l.drop n) := by simp [numV, List.map_drop]
theorem numV_set (k : IntKind) (l : List Nat) (i n : Nat) : (numV k l).set i (.int k (n : Int)) = numV k (l.set i n) := by simp [numV, List.map_set]
theorem numV_cons (k : IntKind) (n : Nat) (l : List Nat) : numV k (n :: l) = .int k (n : Int) :: numV k l := rfl
@[simp] theorem numV_nil (k : IntKind) : numV k [] = [] := rfl
theorem numV_replicate (k : IntKind) (n m : Nat) : numV k (List.replicate n m) = List.replicate n (.int k (m : Int)) := by simp [numV]
theorem numV_getD {k : IntKind} {l : List Nat} {i : Nat} (h : i < l.length) : (numV k l)[i]? = some (.int k ((l.getD i 0 : Nat) : Int)) := by
  rw [numV_get, List.getD_eq_getElem?_getD, List.getElem?_eq_getElem h]; rfl
theorem bytesV_getD {l : List UInt8} {i : Nat} (h : i < l.length) : (bytesV l)[i]? = some (byteV (l.getD i 0)) := by
  rw [bytesV_get, List.getD_eq_getElem?_getD, List.getElem?_eq_getElem h]; rfl
theorem bytesV_set (l : List UInt8) (i : Nat) (b : UInt8) : (bytesV l).set i (byteV b) = bytesV (l.set i b) := by simp [bytesV, List.map_set]
theorem bytesV_replicate (n : Nat) (b : UInt8) : bytesV (List.replicate n b) = List.replicate n (byteV b) := by simp [bytesV]
@[simp] theorem int?_int (k : IntKind) (n : Int) : V.int? k (.int k n) = some n := by simp [V.int?]
@[simp] theorem cells_int (k : IntKind) (n : Int) : (V.int k n).cells = [.int k n] := rfl
@[simp] theorem storeEl_int (k : IntKind) (n : Int) (j : Nat) (v : V) : storeEl (.int k n) j [v] = v := rfl
theorem len_bytesV (l : List UInt8) : len (bytesV l) = (l.length : Int) := by simp [len]
theorem len_numV (k : IntKind) (l : List Nat) : len (numV k l) = (l.length : Int) := by simp [len]

/-! Words that fit. -/
theorem w64_in {n : Int} (h1 : -9223372036854775808 ≤ n) (h2 : n ≤ 9223372036854775807) : w64 n = n := wrap_in h1 h2
theorem w64_nat {n : Nat} (h : n < 9223372036854775808) : w64 (n : Int) = (n : Int) := wrap_nat h
theorem wu8_nat (n : Nat) : wu8 (n : Int) = ((n % 256 : Nat) : Int) := wrap_u8 n
theorem wu32_eq (n : Int) : wu32 n = n % 4294967296 := by simp [wu32, IntKind.wrap, IntKind.bits, IntKind.signed]
theorem wu64_eq (n : Int) : wu64 n = n % 18446744073709551616 := by simp [wu64, IntKind.wrap, IntKind.bits, IntKind.signed]
theorem wu8_eq (n : Int) : wu8 n = n % 256 := by simp [wu8, IntKind.wrap, IntKind.bits, IntKind.signed]
theorem wu32_nat (n : Nat) : wu32 (n : Int) = ((n % 4294967296 : Nat) : Int) := by rw [wu32_eq]; omega
theorem wu64_nat (n : Nat) : wu64 (n : Int) = ((n % 18446744073709551616 : Nat) : Int) := by rw [wu64_eq]; omega
theorem wrap_uns {k : IntKind} (h : k.signed = false) (n : Nat) : k.wrap (n : Int) = ((n % 2 ^ k.bits : Nat) : Int) := by
  cases k <;> simp [IntKind.signed] at h <;> simp [IntKind.wrap, IntKind.bits, IntKind.signed]

theorem wordOr_uns {k : IntKind} (h : k.signed = false) {a b : Nat} (ha : a < 2 ^ k.bits) (hb : b < 2 ^ k.bits) : wordOr k (a : Int) (b : Int) = ((a ||| b : Nat) : Int) := by
  unfold wordOr
  simp only [BitVec.toNat_or, BitVec.ofInt_natCast, BitVec.toNat_ofNat]
  rw [Nat.mod_eq_of_lt ha, Nat.mod_eq_of_lt hb, wrap_uns h, Nat.mod_eq_of_lt (Nat.or_lt_two_pow ha hb)]
theorem wordAnd_uns {k : IntKind} (h : k.signed = false) {a b : Nat} (ha : a < 2 ^ k.bits) (hb : b < 2 ^ k.bits) : wordAnd k (a : Int) (b : Int) = ((a &&& b : Nat) : Int) := by
  unfold wordAnd
  simp only [BitVec.toNat_and, BitVec.ofInt_natCast, BitVec.toNat_ofNat]
  rw [Nat.mod_eq_of_lt ha, Nat.mod_eq_of_lt hb, wrap_uns h, Nat.mod_eq_of_lt (Nat.and_lt_two_pow _ hb)]
theorem wordXor_uns {k : IntKind} (h : k.signed = false) {a b : Nat} (ha : a < 2 ^ k.bits) (hb : b < 2 ^ k.bits) : wordXor k (a : Int) (b : Int) = ((a ^^^ b : Nat) : Int) := by
  unfold wordXor
  simp only [BitVec.toNat_xor, BitVec.ofInt_natCast, BitVec.toNat_ofNat]
  rw [Nat.mod_eq_of_lt ha, Nat.mod_eq_of_lt hb, wrap_uns h, Nat.mod_eq_of_lt (Nat.xor_lt_two_pow ha hb)]
theorem wordShl_uns {k : IntKind} (h : k.signed = false) (a n : Nat) (hn : n ≤ k.bits) : wordShl k (a : Int) (n : Int) = ((a * 2 ^ n % 2 ^ k.bits : Nat) : Int) := by
  unfold wordShl
  rw [Int.toNat_natCast, Nat.min_eq_left hn, show (a : Int) * 2 ^ n = ((a * 2 ^ n : Nat) : Int) by simp, wrap_uns h]
theorem wordShr_any {k : IntKind} (a n : Nat) (hn : n ≤ k.bits) : wordShr k (a : Int) (n : Int) = ((a / 2 ^ n : Nat) : Int) := by
  unfold wordShr
  rw [Int.toNat_natCast, Nat.min_eq_left hn, show ((2 : Int) ^ n) = ((2 ^ n : Nat) : Int) by simp, Int.fdiv_eq_ediv_of_nonneg _ (Int.natCast_nonneg _)]
  rfl

theorem wordOr_u8 {a b : Nat} (ha : a < 256) (hb : b < 256) : wordOr .u8 (a : Int) (b : Int) = ((a ||| b : Nat) : Int) := wordOr_uns rfl ha hb
theorem wordOr_u32 {a b : Nat} (ha : a < 4294967296) (hb : b < 4294967296) : wordOr .u32 (a : Int) (b : Int) = ((a ||| b : Nat) : Int) := wordOr_uns rfl ha hb
theorem wordOr_u64 {a b : Nat} (ha : a < 18446744073709551616) (hb : b < 18446744073709551616) : wordOr .u64 (a : Int) (b : Int) = ((a ||| b : Nat) : Int) := wordOr_uns rfl ha hb
theorem wordAnd_u8 {a b : Nat} (ha : a < 256) (hb : b < 256) : wordAnd .u8 (a : Int) (b : Int) = ((a &&& b : Nat) : Int) := wordAnd_uns rfl ha hb
theorem wordAnd_u32 {a b : Nat} (ha : a < 4294967296) (hb : b < 4294967296) : wordAnd .u32 (a : Int) (b : Int) = ((a &&& b : Nat) : Int) := wordAnd_uns rfl ha hb
theorem wordAnd_u64 {a b : Nat} (ha : a < 18446744073709551616) (hb : b < 18446744073709551616) : wordAnd .u64 (a : Int) (b : Int) = ((a &&& b : Nat) : Int) := wordAnd_uns rfl ha hb
theorem wordXor_u8 {a b : Nat} (ha : a < 256) (hb : b < 256) : wordXor .u8 (a : Int) (b : Int) = ((a ^^^ b : Nat) : Int) := wordXor_uns rfl ha hb
theorem wordXor_u32 {a b : Nat} (ha : a < 4294967296) (hb : b < 4294967296) : wordXor .u32 (a : Int) (b : Int) = ((a ^^^ b : Nat) : Int) := wordXor_uns rfl ha hb
theorem wordXor_u64 {a b : Nat} (ha : a < 18446744073709551616) (hb : b < 18446744073709551616) : wordXor .u64 (a : Int) (b : Int) = ((a ^^^ b : Nat) : Int) := wordXor_uns rfl ha hb
theorem wordShl_u8 (a n : Nat) (hn : n ≤ 8) : wordShl .u8 (a : Int) (n : Int) = ((a * 2 ^ n % 256 : Nat) : Int) := wordShl_uns rfl a n hn
theorem wordShr_u8 (a n : Nat) (hn : n ≤ 8) : wordShr .u8 (a : Int) (n : Int) = ((a / 2 ^ n : Nat) : Int) := wordShr_any a n hn
theorem wordShl_u32 (a n : Nat) (hn : n ≤ 32) : wordShl .u32 (a : Int) (n : Int) = ((a * 2 ^ n % 4294967296 : Nat) : Int) := wordShl_uns rfl a n hn
theorem wordShr_u32 (a n : Nat) (hn : n ≤ 32) : wordShr .u32 (a : Int) (n : Int) = ((a / 2 ^ n : Nat) : Int) := wordShr_any a n hn
theorem wordShl_u64 (a n : Nat) (hn : n ≤ 64) : wordShl .u64 (a : Int) (n : Int) = ((a * 2 ^ n % 18446744073709551616 : Nat) : Int) := wordShl_uns rfl a n hn
theorem wordShr_u64 (a n : Nat) (hn : n ≤ 64) : wordShr .u64 (a : Int) (n : Int) = ((a / 2 ^ n : Nat) : Int) := wordShr_any a n hn

/-- Bits that do not meet, laid together. -/
theorem or_high {a b m : Nat} (h1 : 2 ^ m ∣ a) (h2 : b < 2 ^ m) : a ||| b = a + b := by
  obtain ⟨c, rfl⟩ := h1
  exact (Nat.two_pow_add_eq_or_of_lt h2 c).symm
theorem or_low {a b m : Nat} (h1 : a < 2 ^ m) (h2 : 2 ^ m ∣ b) : a ||| b = a + b := by rw [Nat.or_comm, or_high h2 h1, Nat.add_comm]
end Go.Proofs.YtffofdfikmpanaaGreat.A

namespace Go.Proofs.YtffofdfikmpanaaGreat.A
set_option linter.unusedVariables false
theorem all_id (l : List V) : all l = l := by cases l <;> exact all_eq _
theorem bind_to {α β : Type} {a : Option α} {v : α} {f : α → Option β} {r : Option β} (h1 : a = some v) (h2 : f v = r) : a.bind f = r := by rw [h1]; exact h2
theorem beqI (a b : Int) : (a == b) = decide (a = b) := by rw [Bool.eq_iff_iff]; simp
theorem lst_of (l : List V) : V.lst? false 1 (V.sl false false 1 l) = some l := by simp [V.lst?]
end Go.Proofs.YtffofdfikmpanaaGreat.A

namespace Go.Proofs.YtffofdfikmpanaaGreat.A
set_option linter.unusedVariables false
set_option linter.unusedSimpArgs false

/-- The number of digits, the lowest first. -/
def val (B : Nat) : List Nat → Nat
  | [] => 0
  | d :: r => d + B * val B r

def digF (B : Nat) : Nat → Nat → List Nat
  | 0, _ => []
  | f + 1, n => if n = 0 then [] else n % B :: digF B f (n / B)
/-- A number's digits, the lowest first; none of 0. -/
def dig (B n : Nat) : List Nat := digF B n n

def bitlen (n : Nat) : Nat := if n = 0 then 0 else n.log2 + 1

theorem digF_eq {B : Nat} (hB : 2 ≤ B) : ∀ {f g n : Nat}, n ≤ f → n ≤ g → digF B f n = digF B g n
  | 0, 0, n, _, _ => rfl
  | 0, g + 1, n, h, _ => by simp [digF, show n = 0 by omega]
  | f + 1, 0, n, _, h => by simp [digF, show n = 0 by omega]
  | f + 1, g + 1, n, h1, h2 => by
    simp only [digF]
    split
    · rfl
    · rename_i hn
      have : n / B < n := Nat.div_lt_self (by omega) (by omega)
      rw [digF_eq hB (f := f) (g := g) (by omega) (by omega)]
theorem dig_zero (B : Nat) : dig B 0 = [] := rfl
theorem dig_pos {B n : Nat} (hB : 2 ≤ B) (h : 0 < n) : dig B n = n % B :: dig B (n / B) := by
  obtain ⟨m, rfl⟩ : ∃ m, n = m + 1 := ⟨n - 1, by omega⟩
  unfold dig
  have : (m + 1) / B < m + 1 := Nat.div_lt_self (by omega) (by omega)
  rw [digF, if_neg (by omega), digF_eq hB (f := m) (g := (m + 1) / B) (by omega) (Nat.le_refl _)]

theorem val_append (B : Nat) : ∀ l m : List Nat, val B (l ++ m) = val B l + B ^ l.length * val B m
  | [], m => by simp [val]
  | d :: l, m => by
    simp only [List.cons_append, val, val_append B l m, List.length_cons, Nat.pow_succ, Nat.mul_add]
    rw [Nat.mul_comm (B ^ l.length) B, Nat.mul_assoc]; omega
theorem val_lt {B : Nat} : ∀ {l : List Nat}, (∀ d ∈ l, d < B) → val B l < B ^ l.length
  | [], _ => by simp [val]
  | d :: l, h => by
    have h1 := val_lt (l := l) fun d hd => h d (by simp [hd])
    have h0 := h d (by simp)
    simp only [val, List.length_cons, Nat.pow_succ]
    have : B * (val B l + 1) ≤ B * B ^ l.length := Nat.mul_le_mul_left _ h1
    rw [Nat.mul_comm (B ^ l.length) B]; rw [Nat.mul_add] at this; omega
theorem val_dig {B : Nat} (hB : 2 ≤ B) (n : Nat) : val B (dig B n) = n := by
  induction n using Nat.strongRecOn with
  | _ n ih =>
    by_cases h : n = 0
    · subst h; rfl
    · rw [dig_pos hB (by omega)]
      simp only [val]
      rw [ih _ (Nat.div_lt_self (by omega) (by omega))]
      exact Nat.mod_add_div n B
theorem dig_lt {B : Nat} (hB : 2 ≤ B) (n : Nat) : ∀ d ∈ dig B n, d < B := by
  induction n using Nat.strongRecOn with
  | _ n ih =>
    by_cases h : n = 0
    · subst h; simp [dig_zero]
    · rw [dig_pos hB (by omega)]
      intro d hd
      rcases List.mem_cons.1 hd with rfl | hd
      · exact Nat.mod_lt _ (by omega)
      · exact ih _ (Nat.div_lt_self (by omega) (by omega)) d hd
theorem dig_last {B : Nat} (hB : 2 ≤ B) (n : Nat) : (dig B n).getLast? ≠ some 0 := by
  induction n using Nat.strongRecOn with
  | _ n ih =>
    by_cases h : n = 0
    · subst h; simp [dig_zero]
    · rw [dig_pos hB (by omega)]
      have := ih _ (Nat.div_lt_self (n := n) (k := B) (by omega) (by omega))
      cases h2 : dig B (n / B) with
      | nil =>
        have h3 : n / B = 0 := by rw [← val_dig hB (n / B), h2]; rfl
        have : n % B = n := Nat.mod_eq_of_lt ((Nat.div_eq_zero_iff.1 h3).resolve_left (by omega))
        simp; omega
      | cons x r => rw [h2] at this; simpa using this
/-- Digits without a last nought are those of their number. -/
theorem dig_val {B : Nat} (hB : 2 ≤ B) : ∀ {l : List Nat}, (∀ d ∈ l, d < B) → l.getLast? ≠ some 0 → dig B (val B l) = l
  | [], _, _ => rfl
  | d :: l, h, hl => by
    have hd := h d (by simp)
    have ih := dig_val hB (l := l) (fun d hd => h d (by simp [hd])) (by
      cases l with
      | nil => simp
      | cons x r => simpa using hl)
    have hpos : 0 < val B (d :: l) := by
      simp only [val]
      cases l with
      | nil => simp at hl; simp [val]; omega
      | cons x r =>
        rcases Nat.eq_zero_or_pos (val B (x :: r)) with h0 | h0
        · rw [h0] at ih; cases ih
        · have := Nat.mul_pos (show 0 < B by omega) h0; omega
    rw [dig_pos hB hpos]
    simp only [val]
    rw [Nat.add_mul_mod_self_left, Nat.mod_eq_of_lt hd, Nat.add_mul_div_left _ _ (by omega), Nat.div_eq_of_lt hd, Nat.zero_add, ih]

theorem val_zeros (B : Nat) : ∀ {l : List Nat}, (∀ d ∈ l, d = 0) → val B l = 0
  | [], _ => rfl
  | d :: l, h => by simp only [val]; rw [h d (by simp), val_zeros B fun d hd => h d (by simp [hd])]; simp

/-- What is left of digits without noughts at the end. -/
theorem dig_take {B : Nat} (hB : 2 ≤ B) {l : List Nat} {n : Nat} (hl : ∀ d ∈ l, d < B) (hn : n ≤ l.length) (hz : ∀ i, n ≤ i → l.getD i 0 = 0) (ht : n = 0 ∨ l.getD (n - 1) 0 ≠ 0) : dig B (val B l) = l.take n := by
  have h1 : val B l = val B (l.take n) := by
    conv => lhs; rw [← List.take_append_drop n l]
    rw [val_append, val_zeros B (l := l.drop n), Nat.mul_zero, Nat.add_zero]
    intro d hd
    obtain ⟨i, hi⟩ := List.mem_iff_getElem?.1 hd
    rw [List.getElem?_drop] at hi
    have := hz (n + i) (by omega)
    rw [List.getD_eq_getElem?_getD, hi] at this
    simpa using this
  rw [h1]
  refine dig_val hB (fun d hd => hl d (List.mem_of_mem_take hd)) ?_
  rcases ht with rfl | ht
  · simp
  · rw [List.getLast?_eq_getElem?, List.length_take, Nat.min_eq_left hn]
    intro h
    rw [List.getElem?_take] at h
    split at h
    · rw [List.getD_eq_getElem?_getD, h] at ht; simp at ht
    · cases h

/-- A digit. -/
theorem val_digit {B : Nat} (hB : 0 < B) : ∀ {l : List Nat} {k : Nat}, (∀ d ∈ l, d < B) → val B l / B ^ k % B = l.getD k 0
  | [], k, _ => by simp [val]
  | d :: l, 0, h => by simp [val, Nat.add_mul_mod_self_left, Nat.mod_eq_of_lt (h d (by simp))]
  | d :: l, k + 1, h => by
    simp only [val, List.getD_cons_succ]
    rw [Nat.pow_succ, Nat.mul_comm (B ^ k) B, ← Nat.div_div_eq_div_mul, Nat.add_mul_div_left _ _ hB, Nat.div_eq_of_lt (h d (by simp)), Nat.zero_add]
    exact val_digit hB fun d hd => h d (by simp [hd])

/-! ### How many bits -/

theorem bitlen_le {n k : Nat} : bitlen n ≤ k ↔ n < 2 ^ k := by
  unfold bitlen
  split
  · rename_i h; subst h; simp [Nat.two_pow_pos]
  · rename_i h
    rw [← Nat.log2_lt h]; omega
theorem bitlen_zero : bitlen 0 = 0 := rfl
theorem bitlen_eq {n k : Nat} (h1 : 2 ^ k ≤ n) (h2 : n < 2 ^ (k + 1)) : bitlen n = k + 1 := by
  have h3 := bitlen_le.2 h2
  have h4 : ¬ bitlen n ≤ k := fun h => by have := bitlen_le.1 h; omega
  omega
theorem lt_bitlen (n : Nat) : n < 2 ^ bitlen n := bitlen_le.1 (Nat.le_refl _)
theorem bitlen_ge {n : Nat} (h : n ≠ 0) : 2 ^ (bitlen n - 1) ≤ n := by
  rcases Nat.lt_or_ge n (2 ^ (bitlen n - 1)) with h1 | h1
  · have := bitlen_le.2 h1
    have : bitlen n ≠ 0 := by unfold bitlen; rw [if_neg h]; omega
    omega
  · exact h1
theorem bitlen_pos {n : Nat} (h : n ≠ 0) : 0 < bitlen n := by unfold bitlen; rw [if_neg h]; omega
theorem bitlen_mono {a b : Nat} (h : a ≤ b) : bitlen a ≤ bitlen b := bitlen_le.2 (Nat.lt_of_le_of_lt h (lt_bitlen b))
/-- The bits of a highest digit, and those below it. -/
theorem bitlen_top {k w v m : Nat} (hw : w ≠ 0) (hv : v < 2 ^ m) : bitlen (v + 2 ^ m * w) = m + bitlen w := by
  obtain ⟨j, hj⟩ : ∃ j, bitlen w = j + 1 := ⟨bitlen w - 1, by have := bitlen_pos hw; omega⟩
  rw [hj]
  have h1 := bitlen_ge hw
  have h2 := lt_bitlen w
  rw [hj] at h1 h2
  simp only [Nat.add_sub_cancel] at h1
  rw [← Nat.add_assoc]
  refine bitlen_eq ?_ ?_
  · rw [Nat.pow_add]
    have := Nat.mul_le_mul_left (2 ^ m) h1
    omega
  · rw [show m + j + 1 = m + (j + 1) by omega, Nat.pow_add]
    have : 2 ^ m * (w + 1) ≤ 2 ^ m * 2 ^ (j + 1) := Nat.mul_le_mul_left _ h2
    rw [Nat.mul_add] at this; omega

/-! ### Bytes, the highest first -/

/-- So many bytes of a number. -/
def beN : Nat → Nat → List UInt8
  | 0, _ => []
  | n + 1, v => UInt8.ofNat (v / 256 ^ n) :: beN n v
/-- The number of bytes. -/
def beval (l : List UInt8) : Nat := l.foldl (fun a b => a * 256 + b.toNat) 0
/-- A number's bytes. -/
def be (v : Nat) : List UInt8 := beN ((bitlen v + 7) / 8) v

theorem beN_length (n v : Nat) : (beN n v).length = n := by induction n <;> simp_all [beN]
theorem beN_get {n v i : Nat} (h : i < n) : (beN n v)[i]? = some (UInt8.ofNat (v / 256 ^ (n - 1 - i))) := by
  induction n generalizing i with
  | zero => omega
  | succ n ih =>
    simp only [beN]
    cases i with
    | zero => simp
    | succ i => rw [List.getElem?_cons_succ, ih (by omega)]; congr 4; omega
theorem beval_foldl (l : List UInt8) (a : Nat) : l.foldl (fun a b => a * 256 + b.toNat) a = a * 256 ^ l.length + beval l := by
  unfold beval
  induction l generalizing a with
  | nil => simp
  | cons b l ih =>
    simp only [List.foldl_cons, List.length_cons]
    rw [ih, ih (0 * 256 + b.toNat)]
    rw [Nat.pow_succ, Nat.add_mul, Nat.zero_mul, Nat.zero_add, Nat.mul_assoc, Nat.mul_comm 256]; omega
theorem beval_append (l m : List UInt8) : beval (l ++ m) = beval l * 256 ^ m.length + beval m := by
  conv => lhs; unfold beval
  rw [List.foldl_append, beval_foldl]; rfl
theorem beval_nil : beval [] = 0 := rfl
theorem beval_cons (b : UInt8) (l : List UInt8) : beval (b :: l) = b.toNat * 256 ^ l.length + beval l := by
  rw [show b :: l = [b] ++ l from rfl, beval_append]; simp [beval]
theorem beval_lt (l : List UInt8) : beval l < 256 ^ l.length := by
  induction l with
  | nil => simp [beval]
  | cons b l ih =>
    rw [beval_cons, List.length_cons, Nat.pow_succ]
    have := u8_lt b
    have : (b.toNat + 1) * 256 ^ l.length ≤ 256 * 256 ^ l.length := Nat.mul_le_mul_right _ (by omega)
    rw [Nat.add_mul] at this; omega
theorem beval_beN (n v : Nat) : beval (beN n v) = v % 256 ^ n := by
  induction n with
  | zero => simp [beN, beval, Nat.mod_one]
  | succ n ih =>
    rw [beN, beval_cons, beN_length, ih, Nat.pow_succ, Nat.mod_mul, UInt8.toNat_ofNat']
    rw [Nat.mul_comm, show (2 : Nat) ^ 8 = 256 from rfl]; omega
theorem beval_be (v : Nat) : beval (be v) = v := by
  unfold be
  rw [beval_beN, Nat.mod_eq_of_lt]
  have h := lt_bitlen v
  refine Nat.lt_of_lt_of_le h ?_
  rw [show (256 : Nat) = 2 ^ 8 from rfl, ← Nat.pow_mul]
  exact Nat.pow_le_pow_right (by decide) (by omega)
theorem beN_beval (l : List UInt8) : beN l.length (beval l) = l := by
  induction l with
  | nil => rfl
  | cons b l ih =>
    simp only [List.length_cons, beN]
    have h := beval_lt l
    have h1 : beval (b :: l) / 256 ^ l.length = b.toNat := by
      rw [beval_cons, Nat.add_comm, Nat.add_mul_div_right _ _ (Nat.pow_pos (by decide)), Nat.div_eq_of_lt h, Nat.zero_add]
    have h2 : ∀ n, n ≤ l.length → beN n (beval (b :: l)) = beN n (beval l) := by
      intro n hn
      induction n with
      | zero => rfl
      | succ n ihn =>
        simp only [beN]
        rw [ihn (by omega)]
        congr 1
        have : beval (b :: l) / 256 ^ n % 256 = beval l / 256 ^ n % 256 := by
          rw [beval_cons]
          obtain ⟨j, hj⟩ : ∃ j, l.length = n + 1 + j := ⟨l.length - (n + 1), by omega⟩
          rw [hj, Nat.pow_add, Nat.pow_succ]
          rw [show b.toNat * (256 ^ n * 256 * 256 ^ j) = 256 ^ n * (256 * (256 ^ j * b.toNat)) by ac_rfl]
          rw [Nat.mul_add_div (Nat.pow_pos (by decide)), Nat.mul_add_mod]
        apply UInt8.toNat_inj.1
        rw [UInt8.toNat_ofNat', UInt8.toNat_ofNat']; exact this
    rw [h1, h2 _ (Nat.le_refl _), ih]; simp
end Go.Proofs.YtffofdfikmpanaaGreat.A

namespace Go.Proofs.YtffofdfikmpanaaGreat.A
set_option linter.unusedVariables false
set_option linter.unusedSimpArgs false
set_option maxRecDepth 10000

/-- Words of 32 bits. -/
abbrev W32 : Nat := 4294967296
def isW (l : List Nat) : Prop := ∀ d ∈ l, d < W32
theorem isW.getD {l : List Nat} (h : isW l) (i : Nat) : l.getD i 0 < W32 := by
  rw [List.getD_eq_getElem?_getD]
  cases hi : l[i]? with
  | none => exact (by decide)
  | some d => exact h d (List.mem_of_getElem? hi)
theorem isW_dig (n : Nat) : isW (dig W32 n) := dig_lt (by decide) n
theorem W32_pow : W32 = 2 ^ 32 := by decide

theorem nat_trim_eq (l : List Nat) (hl : isW l) (hn : l.length ≤ 1000000000) : F_nat_trim (numV .u32 l) = some (numV .u32 (dig W32 (val W32 l))) := by
  unfold F_nat_trim
  simp only [decide_eq_true_eq, len_numV]
  refine loopO_run (ι := Nat) (fun n => (numV .u32 l, (n : Int))) (fun _ => numV .u32 (dig W32 (val W32 l))) (fun n => n ≤ l.length ∧ ∀ i, n ≤ i → l.getD i 0 = 0) (fun n => n) ?_ l.length
    ⟨Nat.le_refl _, fun i hi => by rw [List.getD_eq_getElem?_getD, List.getElem?_eq_none hi]; rfl⟩
  rintro n ⟨h1, h2⟩
  dsimp only
  by_cases h0 : n = 0 ∨ l.getD (n - 1) 0 ≠ 0
  · right
    have hc : (if (n : Int) > 0 then if 0 ≤ w64 ((n : Int) - 1) then ((numV .u32 l)[Int.toNat (w64 ((n : Int) - 1))]?).bind fun v3 => (V.int? .u32 v3).bind fun v4 => some (v4 == 0) else none else some false : Option Bool) = some false := by
      rcases h0 with rfl | h0
      · rfl
      · have : 0 < n := by
          rcases Nat.eq_zero_or_pos n with rfl | h
          · exact absurd (h2 0 (Nat.le_refl _)) h0
          · exact h
        rw [if_pos (by omega), w64_in (by omega) (by omega), if_pos (by omega), show ((n : Int) - 1).toNat = n - 1 by omega, numV_getD (by omega)]
        simp only [Option.bind_some, int?_int]
        rw [show (((l.getD (n - 1) 0 : Nat) : Int) == 0) = false by simp only [beq_eq_false_iff_ne]; omega]
    rw [hc]
    simp only [Option.bind_some, Bool.false_eq_true, if_false]
    rw [if_pos (by omega), if_pos (by omega)]
    simp only [numV_length, Int.toNat_natCast, true_and]
    rw [if_pos (by omega)]
    simp only [Option.bind_some, List.drop_zero]
    rw [dig_take (by decide) hl h1 h2 h0, numV_take]
  · left
    have h3 : 0 < n := by omega
    have h4 : l.getD (n - 1) 0 = 0 := by omega
    refine ⟨n - 1, ?_, ⟨by omega, fun i hi => ?_⟩, by omega, rfl⟩
    · rw [if_pos (by omega), w64_in (by omega) (by omega), if_pos (by omega), show ((n : Int) - 1).toNat = n - 1 by omega, numV_getD (by omega)]
      simp only [Option.bind_some, int?_int, h4]
      rw [if_pos (by rfl), show ((n : Int) - 1) = ((n - 1 : Nat) : Int) by omega]
    · by_cases hi2 : i = n - 1
      · rw [hi2, h4]
      · exact h2 i (by omega)

theorem nat_word_eq (l : List Nat) (i : Nat) : F_nat_word (numV .u32 l, (i : Int)) = some ((l.getD i 0 : Nat) : Int) := by
  unfold F_nat_word
  simp only [decide_eq_true_eq, len_numV]
  by_cases h : i < l.length
  · rw [if_pos (by omega), if_pos (by omega), Int.toNat_natCast, numV_getD h]; simp
  · rw [if_neg (by omega), List.getD_eq_getElem?_getD, List.getElem?_eq_none (by omega)]; rfl

/-! ### Bits -/

theorem tab_use {T : List UInt8} {n : Nat} (h : n < 256) (hT : (List.range 256).all (fun n => T[n]? == some (UInt8.ofNat (bitlen n))) = true) : T[n]? = some (UInt8.ofNat (bitlen n)) := by
  have := List.all_eq_true.1 hT n (List.mem_range.2 h)
  simpa using this

/-- Eight bits less, and eight more. -/
theorem bitlen_shift {n k : Nat} (h : 2 ^ k ≤ n) : bitlen n = k + bitlen (n / 2 ^ k) := by
  have h1 : n / 2 ^ k ≠ 0 := by
    have := Nat.div_pos h (Nat.two_pow_pos k)
    omega
  have h2 := bitlen_top (k := k) (w := n / 2 ^ k) (v := n % 2 ^ k) (m := k) h1 (Nat.mod_lt _ (Nat.two_pow_pos k))
  rw [Nat.mod_add_div] at h2
  exact h2

theorem len32_eq (n : Nat) (h : n < W32) : F_math_bits_Len32 (n : Int) = some ((bitlen n : Nat) : Int) := by
  have last : ∀ (m c : Nat), m < 256 → c ≤ 100 → (if 0 ≤ wu8 (m : Int) then some (w64 ((c : Int) + w64 ((bitlen m : Nat) : Int))) else none : Option Int) = some ((c + bitlen m : Nat) : Int) := by
    intro m c hm hc
    have hb : bitlen m ≤ 8 := bitlen_le.2 hm
    rw [wu8_nat, if_pos (by omega), w64_nat (n := bitlen m) (by omega), w64_in (by omega) (by omega)]
    rfl
  have tab : ∀ (m : Nat), m < 256 → Int.toNat (wu8 (m : Int)) = m := fun m hm => by rw [wu8_nat, Int.toNat_natCast]; omega
  have ofn : ∀ m, m < 256 → (UInt8.ofNat (bitlen m)).toNat = bitlen m := fun m hm => by
    have hb : bitlen m ≤ 8 := bitlen_le.2 hm
    rw [UInt8.toNat_ofNat']; omega
  have h' : n < 4294967296 := h
  unfold F_math_bits_Len32
  simp only [decide_eq_true_eq]
  have hsh : ∀ m k : Nat, k ≤ 32 → wordShr .u32 (m : Int) (k : Int) = ((m / 2 ^ k : Nat) : Int) := fun m k hk => wordShr_any m k hk
  by_cases h16 : 65536 ≤ n
  · rw [if_pos (by omega), show (16 : Int) = ((16 : Nat) : Int) from rfl, hsh n 16 (by omega)]
    simp only [Option.bind_some]
    by_cases h8 : 256 ≤ n / 2 ^ 16
    · rw [if_pos (by omega), show (8 : Int) = ((8 : Nat) : Int) from rfl, hsh _ 8 (by omega), w64_in (by omega) (by omega)]
      simp only [Option.bind_some]
      have hm : n / 2 ^ 16 / 2 ^ 8 < 256 := by omega
      rw [tab _ hm, tab_use hm (by decide +kernel)]
      simp only [Option.bind_some, ofn _ hm]
      rw [show ((16 : Nat) : Int) + ((8 : Nat) : Int) = ((24 : Nat) : Int) from rfl, last _ 24 hm (by omega), bitlen_shift (n := n) (k := 16) (by omega), bitlen_shift (n := n / 2 ^ 16) (k := 8) (by omega), ← Nat.add_assoc]
    · rw [if_neg (by omega)]
      simp only [Option.bind_some]
      have hm : n / 2 ^ 16 < 256 := by omega
      rw [tab _ hm, tab_use hm (by decide +kernel)]
      simp only [Option.bind_some, ofn _ hm]
      rw [last _ 16 hm (by omega), bitlen_shift (n := n) (k := 16) (by omega)]
  · rw [if_neg (by omega)]
    simp only [Option.bind_some]
    by_cases h8 : 256 ≤ n
    · rw [if_pos (by omega), show (8 : Int) = ((8 : Nat) : Int) from rfl, hsh _ 8 (by omega), w64_in (by omega) (by omega)]
      simp only [Option.bind_some]
      have hm : n / 2 ^ 8 < 256 := by omega
      rw [tab _ hm, tab_use hm (by decide +kernel)]
      simp only [Option.bind_some, ofn _ hm]
      rw [show (0 : Int) + ((8 : Nat) : Int) = ((8 : Nat) : Int) from rfl, last _ 8 hm (by omega), bitlen_shift (n := n) (k := 8) (by omega)]
    · rw [if_neg (by omega)]
      simp only [Option.bind_some]
      have hm : n < 256 := by omega
      rw [tab _ hm, tab_use hm (by decide +kernel)]
      simp only [Option.bind_some, ofn _ hm]
      have := last n 0 hm (by omega)
      rw [Nat.zero_add] at this
      exact this

/-- A number's words from the highest one on, each with its place. -/
def downL (k : IntKind) (l : List Nat) (n : Nat) : List (List V) := (List.range n).reverse.map fun (i : Nat) => [V.int .i64 (i : Int), V.int k ((l.getD i 0 : Nat) : Int)]
theorem downL_zero (k : IntKind) (l : List Nat) : downL k l 0 = [] := rfl
theorem downL_succ (k : IntKind) (l : List Nat) (n : Nat) : downL k l (n + 1) = [V.int .i64 (n : Int), V.int k ((l.getD n 0 : Nat) : Int)] :: downL k l n := by simp [downL, List.range_succ]
theorem downItems_eq (k : IntKind) (l : List Nat) (hl : l.length ≤ 4611686018427387904) : downItems k (numV k l) = some (downL k l l.length) := by
  unfold downItems downL
  rw [if_pos (by simp [numV, V.isInt]; exact hl), numV_length]
  congr 1
  refine List.map_congr_left fun i hi => ?_
  rw [numV_getD (by simpa using hi)]; rfl

theorem nat_bits_eq (l : List Nat) (hl : isW l) (hn : l.length ≤ 1000000) : F_nat_Bits (numV .u32 l) = some ((bitlen (val W32 l) : Nat) : Int) := by
  unfold F_nat_Bits F_nat_down
  simp only [Option.bind_some]
  rw [downItems_eq _ _ (by omega)]
  simp only [Option.bind_some]
  refine loopO_run (ι := Nat) (fun n => (downL .u32 l n, 0, numV .u32 l)) (fun n => ((bitlen (val W32 (l.take n)) : Nat) : Int)) (fun n => n ≤ l.length) (fun n => n) ?_ l.length (Nat.le_refl _) |>.trans (by rw [List.take_length])
  intro n hnl
  dsimp only
  cases n with
  | zero => right; rfl
  | succ n =>
    simp only [downL_succ, List.getElem?_cons_zero, List.getElem?_cons_succ, Option.bind_some, int?_int, List.length_cons, List.length_nil]
    rw [if_pos trivial]
    have htake : l.take (n + 1) = l.take n ++ [l.getD n 0] := by
      rw [List.take_add_one, List.getD_eq_getElem?_getD, List.getElem?_eq_getElem (by omega)]; rfl
    by_cases hz : l.getD n 0 = 0
    · left
      refine ⟨n, ?_, by omega, by omega, ?_⟩
      · rw [hz, if_neg (by decide)]
      · rw [htake, val_append, hz]; simp [val]
    · right
      rw [if_pos (by simp only [bne_iff_ne]; omega), len32_eq _ (hl.getD n)]
      have hb : bitlen (l.getD n 0) ≤ 32 := bitlen_le.2 (hl.getD n)
      simp only [Option.bind_some]
      rw [w64_in (n := 32 * (n : Int)) (by omega) (by omega), w64_in (by omega) (by omega), htake, val_append]
      have hlt : val W32 (l.take n) < 2 ^ (32 * n) := by
        have := val_lt (B := W32) (l := l.take n) fun d hd => hl d (List.mem_of_mem_take hd)
        rw [List.length_take, Nat.min_eq_left (by omega), W32_pow, ← Nat.pow_mul] at this
        rw [W32_pow]; exact this
      rw [List.length_take, Nat.min_eq_left (by omega)]
      have : val W32 [l.getD n 0] = l.getD n 0 := by simp [val]
      rw [this, show W32 ^ n = 2 ^ (32 * n) by rw [W32_pow, ← Nat.pow_mul], bitlen_top (k := 0) hz hlt]
      simp
end Go.Proofs.YtffofdfikmpanaaGreat.A

namespace Go.Proofs.YtffofdfikmpanaaGreat.A
set_option linter.unusedVariables false
set_option linter.unusedSimpArgs false
set_option maxRecDepth 10000

theorem set_repl {α : Type} (a b : α) (k : Nat) (m : List α) : (List.replicate (k + 1) a ++ m).set k b = List.replicate k a ++ b :: m := by
  rw [List.replicate_succ', List.append_assoc, List.set_append]
  simp
theorem byteV_zero : byteV 0 = .int .u8 0 := rfl
theorem byteV_of (n : Nat) : V.int .u8 ((n % 256 : Nat) : Int) = byteV (UInt8.ofNat n) := by
  unfold byteV; rw [UInt8.toNat_ofNat']
@[simp] theorem storeEl_byte (b : UInt8) (j : Nat) (v : V) : storeEl (byteV b) j [v] = v := rfl
theorem i64_tdiv {n k : Nat} : Int.tdiv (n : Int) (k : Int) = ((n / k : Nat) : Int) := rfl
theorem i64_tmod {n k : Nat} : Int.tmod (n : Int) (k : Int) = ((n % k : Nat) : Int) := rfl

/-- A byte of a number, by its word. -/
theorem byte_of_word {l : List Nat} (hl : isW l) (i : Nat) : l.getD (i / 4) 0 / 2 ^ (8 * (i % 4)) % 256 = val W32 l / 256 ^ i % 256 := by
  rw [← val_digit (by decide) hl]
  generalize val W32 l = v
  have h1 : v / 256 ^ i = v / W32 ^ (i / 4) / 256 ^ (i % 4) := by
    conv => lhs; rw [← Nat.div_add_mod i 4]
    rw [Nat.pow_add, ← Nat.div_div_eq_div_mul, Nat.pow_mul]
  rw [h1]
  generalize v / W32 ^ (i / 4) = x
  have hc : i % 4 = 0 ∨ i % 4 = 1 ∨ i % 4 = 2 ∨ i % 4 = 3 := by omega
  show x % 4294967296 / 2 ^ (8 * (i % 4)) % 256 = x / 256 ^ (i % 4) % 256
  rcases hc with h | h | h | h <;> rw [h] <;> simp only [Nat.reducePow, Nat.reduceMul] <;> omega

theorem nat_lay_eq (l : List Nat) (n : Nat) (hl : isW l) (hn : n ≤ 2147483648) : F_nat_lay (numV .u32 l, (n : Int)) = some (bytesV (beN n (val W32 l))) := by
  unfold F_nat_lay
  simp only [decide_eq_true_eq]
  rw [if_pos (by omega)]
  have hlen : len (rep (Int.toNat (n : Int)) (V.int .u8 0)) = (n : Int) := by simp [len, rep]
  rw [hlen]
  refine loopO_run (ι := Nat) (fun i => (numV .u32 l, (n : Int), bytesV (List.replicate (n - i) 0 ++ beN i (val W32 l)), (n : Int), (i : Int))) (fun _ => bytesV (beN n (val W32 l))) (fun i => i ≤ n) (fun i => n - i) ?_ 0 (Nat.zero_le _)
    |> (fun h => by rw [← h]; simp only [beN, List.append_nil, Nat.sub_zero, bytesV_replicate, byteV_zero, rep, Int.toNat_natCast]; rfl)
  intro i hi
  dsimp only
  by_cases h : i < n
  · left
    refine ⟨i + 1, ?_, h, by omega, rfl⟩
    rw [if_pos (by omega), show (4 : Int) = ((4 : Nat) : Int) from rfl, i64_tdiv, i64_tmod, w64_nat (n := i / 4) (by omega), nat_word_eq]
    simp only [Option.bind_some]
    have e8 : w64 (8 * ((i % 4 : Nat) : Int)) = ((8 * (i % 4) : Nat) : Int) := w64_in (by omega) (by omega)
    have e1 : w64 (w64 ((n : Int) - 1) - (i : Int)) = ((n - 1 - i : Nat) : Int) := by rw [w64_in (n := (n : Int) - 1) (by omega) (by omega), w64_in (by omega) (by omega)]; omega
    rw [e8, e1, if_neg (by omega)]
    simp only [len_bytesV, List.length_append, List.length_replicate, beN_length, Int.toNat_natCast, Nat.zero_add]
    rw [if_pos (by omega), bytesV_getD (by simp [beN_length]; omega)]
    simp only [Option.bind_some, cells_int, storeEl_byte]
    rw [wordShr_any _ _ (by simp only [IntKind.bits]; omega), wu8_nat, byte_of_word hl, byteV_of, bytesV_set, show n - i = (n - 1 - i) + 1 by omega, set_repl]
    have e2 : w64 ((i : Int) + 1) = ((i + 1 : Nat) : Int) := w64_in (by omega) (by omega)
    rw [e2, show n - (i + 1) = n - 1 - i by omega]; rfl
  · right
    rw [if_neg (by omega), all_eq, show n - i = 0 by omega, show i = n by omega]
    rfl

theorem nat_long_eq (l : List Nat) (hl : isW l) (hn : l.length ≤ 1000000) : F_nat_long (numV .u32 l) = some (((bitlen (val W32 l) + 7) / 8 : Nat) : Int) := by
  unfold F_nat_long
  rw [nat_bits_eq l hl hn]
  have hb : bitlen (val W32 l) ≤ 32 * l.length := by
    refine bitlen_le.2 ?_
    have := val_lt hl
    rwa [W32_pow, ← Nat.pow_mul, ← W32_pow] at this
  simp only [Option.bind_some]
  rw [w64_in (n := ((bitlen (val W32 l) : Nat) : Int) + 7) (by omega) (by omega), show ((bitlen (val W32 l) : Nat) : Int) + 7 = ((bitlen (val W32 l) + 7 : Nat) : Int) by omega, show (8 : Int) = ((8 : Nat) : Int) from rfl, i64_tdiv, w64_nat (by omega)]

theorem bitlen_val_le {l : List Nat} (hl : isW l) : bitlen (val W32 l) ≤ 32 * l.length := by
  refine bitlen_le.2 ?_
  have := val_lt hl
  rwa [W32_pow, ← Nat.pow_mul, ← W32_pow] at this

theorem nat_bytes_eq (l : List Nat) (hl : isW l) (hn : l.length ≤ 1000000) : F_nat_Bytes (numV .u32 l) = some (bytesV (be (val W32 l))) := by
  unfold F_nat_Bytes
  have := bitlen_val_le hl
  rw [nat_long_eq l hl hn]
  simp only [Option.bind_some]
  rw [nat_lay_eq l _ hl (by omega)]; rfl

/-! ### Reading -/

/-- So many words of a number, with noughts at the end. -/
def wordsN (n v : Nat) : List Nat := (List.range n).map fun q => v / W32 ^ q % W32
theorem wordsN_length (n v : Nat) : (wordsN n v).length = n := by simp [wordsN]
theorem wordsN_get {n v q : Nat} (h : q < n) : (wordsN n v).getD q 0 = v / W32 ^ q % W32 := by
  rw [List.getD_eq_getElem?_getD]; simp [wordsN, h]
theorem wordsN_isW (n v : Nat) : isW (wordsN n v) := fun d hd => by
  simp only [wordsN, List.mem_map] at hd
  obtain ⟨q, _, rfl⟩ := hd
  exact Nat.mod_lt _ (by decide)
theorem val_words (B n v : Nat) : val B ((List.range n).map fun q => v / B ^ q % B) = v % B ^ n := by
  induction n generalizing v with
  | zero => simp [val, Nat.mod_one]
  | succ n ih =>
    rw [List.range_succ_eq_map, List.map_cons, List.map_map]
    simp only [val, Nat.pow_zero, Nat.div_one]
    have : (List.range n).map ((fun q => v / B ^ q % B) ∘ Nat.succ) = (List.range n).map fun q => v / B / B ^ q % B := List.map_congr_left fun q _ => by
      simp only [Function.comp, Nat.succ_eq_add_one, Nat.pow_succ]
      rw [Nat.mul_comm (B ^ q) B, ← Nat.div_div_eq_div_mul]
    rw [this, ih, Nat.pow_succ, Nat.mul_comm (B ^ n), Nat.mod_mul]
theorem val_wordsN (n v : Nat) : val W32 (wordsN n v) = v % W32 ^ n := val_words W32 n v
theorem wordsN_set {n v v' q : Nat} (h : q < n) (h1 : ∀ j, j ≠ q → v' / W32 ^ j % W32 = v / W32 ^ j % W32) : (wordsN n v).set q (v' / W32 ^ q % W32) = wordsN n v' := by
  refine List.ext_getElem? fun j => ?_
  by_cases hj : j = q
  · subst hj
    rw [List.getElem?_set_self (by rw [wordsN_length]; exact h)]
    simp [wordsN, h]
  · rw [List.getElem?_set_ne (Ne.symm hj)]
    by_cases hjn : j < n
    · simp [wordsN, hjn, h1 j hj]
    · rw [List.getElem?_eq_none (by rw [wordsN_length]; omega), List.getElem?_eq_none (by rw [wordsN_length]; omega)]

/-- One byte below the bytes that a number has. -/
theorem words_add (v x k : Nat) (hv : 256 ^ (k + 1) ∣ v) (hx : x < 256) : (∀ j, j ≠ k / 4 → (v + x * 256 ^ k) / W32 ^ j % W32 = v / W32 ^ j % W32) ∧
    (v / W32 ^ (k / 4) % W32 ||| x * 2 ^ (8 * (k % 4)) % 2 ^ 32) = (v + x * 256 ^ k) / W32 ^ (k / 4) % W32 := by
  obtain ⟨c, rfl⟩ := hv
  obtain ⟨q, r, hr, rfl⟩ : ∃ q r, r < 4 ∧ k = 4 * q + r := ⟨k / 4, k % 4, Nat.mod_lt _ (by decide), (Nat.div_add_mod k 4).symm⟩
  have hq : (4 * q + r) / 4 = q := by omega
  have hr4 : (4 * q + r) % 4 = r := by omega
  rw [hq, hr4]
  have hp : ∀ m, (256 : Nat) ^ (4 * q + m) = W32 ^ q * 256 ^ m := fun m => by rw [Nat.pow_add, Nat.pow_mul]
  rw [show 4 * q + r + 1 = 4 * q + (r + 1) by omega, hp, hp]
  have e1 : W32 ^ q * 256 ^ (r + 1) * c + x * (W32 ^ q * 256 ^ r) = W32 ^ q * (256 ^ (r + 1) * c + x * 256 ^ r) := by rw [Nat.mul_add]; congr 1 <;> ac_rfl
  have e2 : W32 ^ q * 256 ^ (r + 1) * c = W32 ^ q * (256 ^ (r + 1) * c) := by ac_rfl
  rw [e1, e2]
  have hpos : ∀ j, 0 < W32 ^ j := fun j => Nat.pow_pos (by decide)
  have hsmall : x * 256 ^ r < W32 := by
    have : r = 0 ∨ r = 1 ∨ r = 2 ∨ r = 3 := by omega
    show x * 256 ^ r < 4294967296
    rcases this with rfl | rfl | rfl | rfl <;> simp only [Nat.reducePow] <;> omega
  have hsum : ∀ A, 256 ^ (r + 1) ∣ A → A / W32 = (A + x * 256 ^ r) / W32 ∧ (A % W32 ||| x * 256 ^ r) = (A + x * 256 ^ r) % W32 := by
    rintro A ⟨d, rfl⟩
    have hlt : x * 256 ^ r < 256 ^ (r + 1) := by rw [Nat.pow_succ, Nat.mul_comm (256 ^ r)]; exact Nat.mul_lt_mul_of_pos_right hx (Nat.pow_pos (by decide))
    have hdvd : ∃ e, W32 = 256 ^ (r + 1) * e := by
      have : r = 0 ∨ r = 1 ∨ r = 2 ∨ r = 3 := by omega
      rcases this with rfl | rfl | rfl | rfl
      · exact ⟨16777216, by decide⟩
      · exact ⟨65536, by decide⟩
      · exact ⟨256, by decide⟩
      · exact ⟨1, by decide⟩
    obtain ⟨e, he⟩ := hdvd
    have hB : 0 < 256 ^ (r + 1) := Nat.pow_pos (by decide)
    have hm : 256 ^ (r + 1) * d % W32 = 256 ^ (r + 1) * (d % e) := by rw [he, Nat.mul_mod_mul_left]
    have hepos : 0 < e := by rcases Nat.eq_zero_or_pos e with h | h; (subst h; rw [Nat.mul_zero] at he; exact absurd he (by decide)); exact h
    have hle : 256 ^ (r + 1) * (d % e) + 256 ^ (r + 1) ≤ W32 := by
      rw [he, ← Nat.mul_succ]; exact Nat.mul_le_mul_left _ (Nat.mod_lt _ hepos)
    have hlt2 : 256 ^ (r + 1) * d % W32 + x * 256 ^ r < W32 := by rw [hm]; omega
    have hd := Nat.div_add_mod (256 ^ (r + 1) * d) W32
    constructor
    · conv => rhs; rw [← hd, Nat.add_assoc, Nat.mul_add_div (by decide), Nat.div_eq_of_lt hlt2, Nat.add_zero]
    · conv => rhs; rw [← hd, Nat.add_assoc, Nat.mul_add_mod, Nat.mod_eq_of_lt hlt2]
      rw [hm]
      refine or_high (m := 8 * (r + 1)) ?_ ?_
      · rw [Nat.pow_mul]; exact Nat.dvd_mul_right _ _
      · rw [Nat.pow_mul]; exact hlt
  obtain ⟨s1, s2⟩ := hsum (256 ^ (r + 1) * c) (Nat.dvd_mul_right _ _)
  constructor
  · intro j hj
    rcases Nat.lt_or_gt_of_ne hj with h | h
    · obtain ⟨m, rfl⟩ : ∃ m, q = j + (m + 1) := ⟨q - j - 1, by omega⟩
      rw [Nat.pow_add, Nat.pow_succ]
      have : ∀ A, W32 ^ j * (W32 ^ m * W32) * A = W32 ^ j * (W32 * (W32 ^ m * A)) := fun A => by ac_rfl
      rw [this, this, Nat.mul_div_cancel_left _ (hpos j), Nat.mul_div_cancel_left _ (hpos j), Nat.mul_mod_right, Nat.mul_mod_right]
    · obtain ⟨m, rfl⟩ : ∃ m, j = q + (1 + m) := ⟨j - q - 1, by omega⟩
      have hj2 : ∀ A, W32 ^ q * A / W32 ^ (q + (1 + m)) = A / W32 / W32 ^ m := fun A => by
        rw [Nat.pow_add W32 q, ← Nat.div_div_eq_div_mul, Nat.mul_div_cancel_left _ (hpos q), Nat.pow_add W32 1, Nat.pow_one, ← Nat.div_div_eq_div_mul]
      rw [hj2, hj2, s1]
  · have hx2 : x * 2 ^ (8 * r) % 2 ^ 32 = x * 256 ^ r := by rw [Nat.pow_mul]; exact Nat.mod_eq_of_lt hsmall
    rw [Nat.mul_div_cancel_left _ (hpos q), Nat.mul_div_cancel_left _ (hpos q), ← s2, hx2]
end Go.Proofs.YtffofdfikmpanaaGreat.A

namespace Go.Proofs.YtffofdfikmpanaaGreat.A
set_option linter.unusedVariables false
set_option linter.unusedSimpArgs false
set_option maxRecDepth 10000

theorem wordsN_zero (n : Nat) : wordsN n 0 = List.replicate n 0 := by
  refine List.ext_getElem? fun i => ?_
  by_cases h : i < n <;> simp [wordsN, h]
theorem beval_take_succ {b : List UInt8} {i : Nat} (h : i < b.length) : beval (b.take (i + 1)) = beval (b.take i) * 256 + (b.getD i 0).toNat := by
  have : b.take (i + 1) = b.take i ++ [b.getD i 0] := by
    rw [List.take_add_one, List.getD_eq_getElem?_getD, List.getElem?_eq_getElem h]; rfl
  rw [this, beval_append]; simp [beval]

theorem nat_read_eq (b : List UInt8) (hn : b.length ≤ 1000000) : F_nat_Read (bytesV b) = some (numV .u32 (dig W32 (beval b))) := by
  unfold F_nat_Read
  simp only [decide_eq_true_eq, len_bytesV]
  have eL : w64 (Int.tdiv (w64 ((b.length : Int) + 3)) 4) = (((b.length + 3) / 4 : Nat) : Int) := by
    rw [w64_in (n := (b.length : Int) + 3) (by omega) (by omega), show (b.length : Int) + 3 = ((b.length + 3 : Nat) : Int) by omega, show (4 : Int) = ((4 : Nat) : Int) from rfl, i64_tdiv, w64_nat (by omega)]
  rw [eL, if_pos (by omega)]
  generalize hL : (b.length + 3) / 4 = L
  refine loopO_run (ι := Nat) (fun i => (bytesV b, numV .u32 (wordsN L (beval (b.take i) * 256 ^ (b.length - i))), bytesV b, (b.length : Int), (i : Int))) (fun _ => numV .u32 (dig W32 (beval b))) (fun i => i ≤ b.length) (fun i => b.length - i) ?_ 0 (Nat.zero_le _)
    |> (fun h => by rw [← h]; simp only [List.take_zero, beval_nil, Nat.zero_mul, wordsN_zero, numV_replicate, rep, Int.toNat_natCast]; rfl)
  intro i hi
  dsimp only
  by_cases h : i < b.length
  · left
    refine ⟨i + 1, ?_, h, by omega, rfl⟩
    have e1 : w64 (w64 ((b.length : Int) - 1) - (i : Int)) = ((b.length - 1 - i : Nat) : Int) := by rw [w64_in (n := (b.length : Int) - 1) (by omega) (by omega), w64_in (by omega) (by omega)]; omega
    rw [if_pos (by omega), if_pos (by omega), Int.toNat_natCast, bytesV_getD h]
    simp only [Option.bind_some, byteV_int, len_bytesV, e1]
    rw [show (4 : Int) = ((4 : Nat) : Int) from rfl, i64_tdiv, i64_tmod]
    generalize hk : b.length - 1 - i = k
    have e2 : w64 ((k / 4 : Nat) : Int) = ((k / 4 : Nat) : Int) := w64_nat (by omega)
    have e8 : w64 (8 * ((k % 4 : Nat) : Int)) = ((8 * (k % 4) : Nat) : Int) := w64_in (by omega) (by omega)
    have hkL : k / 4 < L := by omega
    simp only [e2, e8, len_numV, wordsN_length, Int.toNat_natCast, Nat.zero_add]
    rw [if_pos (by omega), numV_getD (by rw [wordsN_length]; exact hkL)]
    simp only [Option.bind_some, cells_int, List.getElem?_cons_zero, int?_int, storeEl_int]
    rw [if_neg (by omega), if_pos (by omega)]
    have e3 : w64 ((i : Int) + 1) = ((i + 1 : Nat) : Int) := w64_in (by omega) (by omega)
    rw [e3]
    have hx := u8_lt (b.getD i 0)
    generalize hxx : (b.getD i 0).toNat = x at hx
    have hv : beval (b.take (i + 1)) * 256 ^ (b.length - (i + 1)) = beval (b.take i) * 256 ^ (b.length - i) + x * 256 ^ k := by
      rw [beval_take_succ h, hxx, show b.length - i = k + 1 by omega, show b.length - (i + 1) = k by omega, Nat.pow_succ, Nat.add_mul, Nat.mul_assoc, Nat.mul_comm 256]
    rw [hv]
    obtain ⟨h1, h2⟩ := words_add (beval (b.take i) * 256 ^ (b.length - i)) x k (by rw [show b.length - i = k + 1 by omega]; exact Nat.dvd_mul_left _ _) hx
    rw [wu32_nat, Nat.mod_eq_of_lt (show x < 4294967296 by omega), wordShl_u32 _ _ (by omega), wordsN_get hkL, wordOr_u32 (Nat.mod_lt _ (by decide)) (Nat.mod_lt _ (by decide)), show 4294967296 = 2 ^ 32 from rfl, show 2 ^ 32 = W32 from rfl]
    rw [show (2 : Nat) ^ 32 = W32 from rfl] at h2
    rw [h2, numV_set, wordsN_set hkL h1]
  · right
    have : i = b.length := by omega
    subst this
    rw [if_neg (by omega), all_eq, Nat.sub_self, Nat.pow_zero, Nat.mul_one, List.take_length, nat_trim_eq _ (wordsN_isW _ _) (by rw [wordsN_length]; omega), val_wordsN, Nat.mod_eq_of_lt]
    · rfl
    · refine Nat.lt_of_lt_of_le (beval_lt b) ?_
      rw [show W32 = 256 ^ 4 by decide, ← Nat.pow_mul]
      exact Nat.pow_le_pow_right (by decide) (by omega)
end Go.Proofs.YtffofdfikmpanaaGreat.A

namespace Go.Proofs.YtffofdfikmpanaaGreat.A
set_option linter.unusedVariables false
set_option linter.unusedSimpArgs false
set_option maxRecDepth 10000

abbrev B16 : Nat := 65536
def isD (l : List Nat) : Prop := ∀ d ∈ l, d < B16
theorem isD_dig (n : Nat) : isD (dig B16 n) := dig_lt (by decide) n
theorem isD.getD {l : List Nat} (h : isD l) (i : Nat) : l.getD i 0 < B16 := by
  rw [List.getD_eq_getElem?_getD]
  cases hi : l[i]? with
  | none => exact (by decide)
  | some d => exact h d (List.mem_of_getElem? hi)

theorem r04_digit_eq (l : List Nat) (i : Nat) : F_affiantref04_digit (numV .u64 l, (i : Int)) = some ((l.getD i 0 : Nat) : Int) := by
  unfold F_affiantref04_digit
  simp only [decide_eq_true_eq, len_numV]
  by_cases h : i < l.length
  · rw [if_pos (by omega), if_pos (by omega), Int.toNat_natCast, numV_getD h]; simp
  · rw [if_neg (by omega), List.getD_eq_getElem?_getD, List.getElem?_eq_none (by omega)]; rfl

theorem r04_trim_eq (l : List Nat) (hl : isD l) (hn : l.length ≤ 1000000000) : F_affiantref04_trim (numV .u64 l) = some (numV .u64 (dig B16 (val B16 l))) := by
  unfold F_affiantref04_trim
  simp only [decide_eq_true_eq, len_numV]
  refine loopO_run (ι := Nat) (fun n => (numV .u64 l, (n : Int))) (fun _ => numV .u64 (dig B16 (val B16 l))) (fun n => n ≤ l.length ∧ ∀ i, n ≤ i → l.getD i 0 = 0) (fun n => n) ?_ l.length
    ⟨Nat.le_refl _, fun i hi => by rw [List.getD_eq_getElem?_getD, List.getElem?_eq_none hi]; rfl⟩
  rintro n ⟨h1, h2⟩
  dsimp only
  by_cases h0 : n = 0 ∨ l.getD (n - 1) 0 ≠ 0
  · right
    have hc : (if (n : Int) > 0 then if 0 ≤ w64 ((n : Int) - 1) then ((numV .u64 l)[Int.toNat (w64 ((n : Int) - 1))]?).bind fun v3 => (V.int? .u64 v3).bind fun v4 => some (v4 == 0) else none else some false : Option Bool) = some false := by
      rcases h0 with rfl | h0
      · rfl
      · have : 0 < n := by
          rcases Nat.eq_zero_or_pos n with rfl | h
          · exact absurd (h2 0 (Nat.le_refl _)) h0
          · exact h
        rw [if_pos (by omega), w64_in (by omega) (by omega), if_pos (by omega), show ((n : Int) - 1).toNat = n - 1 by omega, numV_getD (by omega)]
        simp only [Option.bind_some, int?_int]
        rw [show (((l.getD (n - 1) 0 : Nat) : Int) == 0) = false by simp only [beq_eq_false_iff_ne]; omega]
    rw [hc]
    simp only [Option.bind_some, Bool.false_eq_true, if_false]
    rw [if_pos (by omega)]
    simp only [numV_length, Int.toNat_natCast, true_and]
    rw [if_pos (by omega)]
    simp only [Option.bind_some, List.drop_zero]
    rw [dig_take (by decide) hl h1 h2 h0, numV_take]
  · left
    have h3 : 0 < n := by omega
    have h4 : l.getD (n - 1) 0 = 0 := by omega
    refine ⟨n - 1, ?_, ⟨by omega, fun i hi => ?_⟩, by omega, rfl⟩
    · rw [if_pos (by omega), w64_in (by omega) (by omega), if_pos (by omega), show ((n : Int) - 1).toNat = n - 1 by omega, numV_getD (by omega)]
      simp only [Option.bind_some, int?_int, h4]
      rw [if_pos (by rfl), show ((n : Int) - 1) = ((n - 1 : Nat) : Int) by omega]
    · by_cases hi2 : i = n - 1
      · rw [hi2, h4]
      · exact h2 i (by omega)

/-- The halves of words. -/
def halves (l : List Nat) : List Nat := l.flatMap fun w => [w % B16, w / B16]
theorem halves_length (l : List Nat) : (halves l).length = 2 * l.length := by
  induction l with
  | nil => rfl
  | cons w l ih => simp only [halves, List.flatMap_cons, List.length_append, List.length_cons, List.length_nil] at ih ⊢; omega
theorem halves_append (l m : List Nat) : halves (l ++ m) = halves l ++ halves m := by simp [halves]
theorem isD_halves {l : List Nat} (hl : isW l) : isD (halves l) := fun d hd => by
  simp only [halves, List.mem_flatMap] at hd
  obtain ⟨w, hw, hd⟩ := hd
  have := hl w hw
  have h2 : w < 4294967296 := this
  simp only [List.mem_cons, List.not_mem_nil, or_false] at hd
  rcases hd with rfl | rfl
  · exact Nat.mod_lt _ (by decide)
  · show w / 65536 < 65536; omega
theorem val_halves (l : List Nat) : val B16 (halves l) = val W32 l := by
  induction l with
  | nil => rfl
  | cons w l ih =>
    have : halves (w :: l) = [w % B16, w / B16] ++ halves l := rfl
    rw [this, val_append, ih]
    simp only [val, List.length_cons, List.length_nil]
    show w % 65536 + 65536 * (w / 65536 + 65536 * 0) + 65536 ^ (0 + 1 + 1) * val W32 l = w + 4294967296 * val W32 l
    omega

theorem take_snoc {l : List Nat} {i : Nat} (h : i < l.length) : l.take (i + 1) = l.take i ++ [l.getD i 0] := by
  rw [List.take_add_one, List.getD_eq_getElem?_getD, List.getElem?_eq_getElem h]; rfl

theorem r04_Digits_eq (l : List Nat) (hl : isW l) (hn : l.length ≤ 1000000) : F_affiantref04_Digits (numV .u32 l) = some (numV .u64 (dig B16 (val W32 l))) := by
  unfold F_affiantref04_Digits
  simp only [decide_eq_true_eq]
  refine loopO_run (ι := Nat) (fun i => (numV .u32 l, numV .u64 (halves (l.take i)), (i : Int))) (fun _ => numV .u64 (dig B16 (val W32 l))) (fun i => i ≤ l.length) (fun i => l.length - i) ?_ 0 (Nat.zero_le _)
  intro i hi
  dsimp only
  rw [len_numV]
  by_cases h : i < l.length
  · left
    refine ⟨i + 1, ?_, h, by omega, rfl⟩
    rw [if_pos (by omega), if_pos (by omega), Int.toNat_natCast, numV_getD h]
    simp only [Option.bind_some, int?_int, all_eq, numV_length, halves_length, List.length_take]
    rw [if_pos (by omega), if_pos (by omega)]
    have hw : l.getD i 0 < 4294967296 := hl.getD i
    rw [show (65536 : Int) = ((65536 : Nat) : Int) from rfl, i64_tmod, i64_tdiv, wu64_nat, wu32_nat, wu64_nat, take_snoc h, halves_append, numV_append, w64_in (by omega) (by omega),
      Nat.mod_eq_of_lt (a := l.getD i 0 / 65536) (by omega), Nat.mod_eq_of_lt (a := l.getD i 0 / 65536) (by omega), Nat.mod_eq_of_lt (a := l.getD i 0 % 65536) (by omega)]
    rfl
  · right
    have : i = l.length := by omega
    subst this
    rw [if_neg (by omega), all_eq, List.take_length, r04_trim_eq _ (isD_halves hl) (by rw [halves_length]; omega), val_halves]
    rfl

/-! ### Which one is greater -/

def cmpI (a b : Nat) : Int := if a < b then -1 else if b < a then 1 else 0
theorem cmpI_zero {a b : Nat} : cmpI a b = 0 ↔ a = b := by
  unfold cmpI; split
  · omega
  · split <;> omega

theorem dig_length_le {B n k : Nat} (hB : 2 ≤ B) (h : n < B ^ k) : (dig B n).length ≤ k := by
  induction k generalizing n with
  | zero => simp at h; subst h; simp [dig_zero]
  | succ k ih =>
    by_cases h0 : n = 0
    · subst h0; simp [dig_zero]
    · rw [dig_pos hB (by omega), List.length_cons]
      have := ih (n := n / B) (by rw [Nat.div_lt_iff_lt_mul (by omega)]; rwa [Nat.pow_succ] at h)
      omega
theorem dig16_length {l : List Nat} (hl : isW l) : (dig B16 (val W32 l)).length ≤ 2 * l.length := by
  refine dig_length_le (by decide) ?_
  have := val_lt hl
  rwa [show W32 = B16 ^ 2 by decide, ← Nat.pow_mul] at this

end Go.Proofs.YtffofdfikmpanaaGreat.A

namespace Go.Proofs.YtffofdfikmpanaaGreat.A
set_option linter.unusedVariables false
set_option linter.unusedSimpArgs false
set_option maxRecDepth 10000

theorem cur_put_eq (b : List UInt8) (n w : Nat) (h1 : 1 ≤ w) (h8 : w ≤ 8) (hn : n < 256 ^ w) (hb : b.length ≤ 2000000000) : F_cursor_Put (bytesV b, (n : Int), (w : Int)) = some (bytesV (b ++ beN w n), 0) := by
  unfold F_cursor_Put
  simp only [decide_eq_true_eq, decide_eq_false_iff_not]
  rw [if_pos (by omega), if_pos (by omega)]
  have e8 : w64 (8 * (w : Int)) = ((8 * w : Nat) : Int) := by rw [w64_in (by omega) (by omega)]; omega
  have hc : (if (w : Int) < 8 then if w64 (8 * (w : Int)) < 0 then none else some (wordShr .u64 (n : Int) (w64 (8 * (w : Int))) != 0) else some false : Option Bool) = some false := by
    split
    · rw [e8, if_neg (by omega), wordShr_u64 _ _ (by omega), Nat.div_eq_of_lt (by rw [Nat.pow_mul]; exact hn)]; rfl
    · rfl
  rw [hc]
  simp only [Option.bind_some, Bool.false_eq_true, if_false, len_bytesV]
  have e1 : w64 ((b.length : Int) + (w : Int)) = ((b.length + w : Nat) : Int) := by rw [w64_in (by omega) (by omega)]; omega
  rw [e1, if_pos (by omega)]
  have h0 : List.take (min (List.length (rep (List.length (bytesV b)) (V.int .u8 0))) (List.length (bytesV b))) (bytesV b) ++ List.drop (0 + min (List.length (rep (List.length (bytesV b)) (V.int .u8 0))) (List.length (bytesV b))) (rep (List.length (bytesV b)) (V.int .u8 0)) = bytesV b := by
    simp only [rep, List.length_replicate, Nat.min_self, Nat.zero_add]
    rw [List.take_length, List.drop_of_length_le (by simp), List.append_nil]
  rw [h0]
  have e2 : w64 (8 * w64 ((w : Int) - 1)) = 8 * ((w : Int) - 1) := by rw [w64_in (n := (w : Int) - 1) (by omega) (by omega), w64_in (by omega) (by omega)]
  rw [e2]
  refine (congrArg (loopO _) ?_).trans (loopO_run (ι := Nat) (fun j => ((n : Int), bytesV (b ++ (beN w n).take j), 8 * ((w : Int) - 1 - (j : Int)))) (fun _ => (bytesV (b ++ beN w n), 0)) (fun j => j ≤ w) (fun j => w - j) ?_ 0 (Nat.zero_le _))
  · simp
  intro j hj
  dsimp only
  by_cases h : j < w
  · left
    refine ⟨j + 1, ?_, h, by omega, rfl⟩
    rw [if_pos (by omega), if_neg (by omega)]
    simp only [all_eq, bytesV_length, List.length_append, List.length_take, beN_length]
    rw [if_pos (by omega), show 8 * ((w : Int) - 1 - (j : Int)) = ((8 * (w - 1 - j) : Nat) : Int) by omega, wordShr_u64 _ _ (by omega), wu8_nat, byteV_of, Nat.pow_mul]
    have ht : (beN w n).take (j + 1) = (beN w n).take j ++ [UInt8.ofNat (n / 256 ^ (w - 1 - j))] := by
      rw [List.take_add_one, beN_get h]; rfl
    rw [ht, ← List.append_assoc, bytesV_append (b ++ _), w64_in (by omega) (by omega)]
    congr 5
    omega
  · right
    rw [if_neg (by omega), all_eq, List.take_of_length_le (by rw [beN_length]; omega)]

theorem num_loop (l : List UInt8) (hl : l.length ≤ 8) (x : (List V × Int) × Unit) (e : Int) (f : List V × Int × (Nat × Nat) × Int × Int → Option ((List V × Int × (Nat × Nat) × Int × Int) ⊕ ((Int × Int) × ((List V × Int) × Unit))))
    (hf : ∀ (n : Nat) (j : Nat), f (bytesV l, (n : Int), (0, l.length), (l.length : Int), (j : Int)) = if (j : Int) < (l.length : Int) then if 0 ≤ (j : Int) ∧ (j : Int) < (l.length : Int) then ((bytesV l)[0 + (j : Int).toNat]?).bind fun v15 => ((V.cells v15)[0]?).bind fun v16 => (V.int? .u8 v16).bind fun v17 => some (.inl (bytesV l, wordOr .u64 (wordShl .u64 (n : Int) 8) (wu64 v17), (0, l.length), (l.length : Int), w64 ((j : Int) + 1))) else none else some (.inr (((n : Int), e), x))) :
    loopO f (bytesV l, 0, (0, l.length), (l.length : Int), 0) = some ((((beval l : Nat) : Int), e), x) := by
  refine loopO_run (ι := Nat) (fun j => (bytesV l, ((beval (l.take j) : Nat) : Int), (0, l.length), (l.length : Int), (j : Int))) (fun _ => ((((beval l : Nat) : Int), e), x)) (fun j => j ≤ l.length) (fun j => l.length - j) ?_ 0 (Nat.zero_le _)
  intro j hj
  rw [hf]
  by_cases h : j < l.length
  · left
    refine ⟨j + 1, ?_, h, by omega, rfl⟩
    rw [if_pos (by omega), if_pos (by omega), Int.toNat_natCast, Nat.zero_add, bytesV_getD h]
    simp only [Option.bind_some, byteV_cells, List.getElem?_cons_zero, byteV_int]
    have hlt := beval_lt (l.take j)
    rw [List.length_take, Nat.min_eq_left (by omega)] at hlt
    have h7 : beval (l.take j) < 256 ^ 7 := Nat.lt_of_lt_of_le hlt (Nat.pow_le_pow_right (by decide) (by omega))
    have hx := u8_lt (l.getD j 0)
    rw [show (8 : Int) = ((8 : Nat) : Int) from rfl, wordShl_u64 _ _ (by omega), wu64_nat, Nat.mod_eq_of_lt (a := beval (l.take j) * 2 ^ 8) (by omega), Nat.mod_eq_of_lt (a := (l.getD j 0).toNat) (by omega),
      wordOr_u64 (by omega) (by omega), or_high (m := 8) (Nat.dvd_mul_left _ _) (by omega), w64_in (by omega) (by omega), beval_take_succ h]
    rfl
  · right
    rw [if_neg (by omega), List.take_of_length_le (by omega)]

end Go.Proofs.YtffofdfikmpanaaGreat.A

namespace Go.Proofs.YtffofdfikmpanaaGreat.A
set_option linter.unusedVariables false
set_option linter.unusedSimpArgs false
set_option maxRecDepth 10000

/-- A number behind how many bits it has. -/
def mpiB (v : Nat) : List UInt8 := beN 2 (bitlen v) ++ be v
theorem be_length (v : Nat) : (be v).length = (bitlen v + 7) / 8 := beN_length _ _
theorem mpiB_length (v : Nat) : (mpiB v).length = 2 + (bitlen v + 7) / 8 := by simp [mpiB, beN_length, be_length]

theorem mpi_put_eq (b : List UInt8) (l : List Nat) (hl : isW l) (hn : l.length ≤ 1000000) (hb : b.length ≤ 1000000000) : F_mpi_Put (bytesV b, numV .u32 l) = some (if bitlen (val W32 l) ≤ 16384 then (bytesV (b ++ mpiB (val W32 l)), 0) else (nilV, 4)) := by
  unfold F_mpi_Put
  simp only [decide_eq_true_eq]
  rw [nat_bits_eq l hl hn]
  simp only [Option.bind_some]
  by_cases h : bitlen (val W32 l) ≤ 16384
  · rw [if_neg (by omega), if_pos h, wu64_nat, Nat.mod_eq_of_lt (by omega)]
    have := cur_put_eq b (bitlen (val W32 l)) 2 (by omega) (by omega) (by omega) (by omega)
    rw [show ((2 : Nat) : Int) = 2 from rfl] at this
    rw [this]
    simp only [Option.bind_some]
    rw [nat_bytes_eq l hl hn]
    simp only [Option.bind_some, all_eq, bytesV_length, List.length_append, beN_length, be_length]
    rw [if_pos (by omega), mpiB, ← List.append_assoc, bytesV_append (b ++ _)]
  · rw [if_pos (by omega), if_neg h]

/-- A number off bytes: its value, and what is left; or an error. -/
def mpiT (r : List UInt8) : Nat ⊕ (Nat × List UInt8) :=
  if r.length < 2 then .inl 2
  else if 16384 < beval (r.take 2) then .inl 4
  else if (r.drop 2).length < (beval (r.take 2) + 7) / 8 then .inl 2
  else if bitlen (beval ((r.drop 2).take ((beval (r.take 2) + 7) / 8))) ≠ beval (r.take 2) then .inl 3
  else .inr (beval ((r.drop 2).take ((beval (r.take 2) + 7) / 8)), (r.drop 2).drop ((beval (r.take 2) + 7) / 8))

/-- So many numbers. -/
def mpiAll : Nat → List UInt8 → Nat ⊕ List Nat
  | 0, r => if r = [] then .inr [] else .inl 3
  | n + 1, r => match mpiT r with
    | .inl e => .inl e
    | .inr (v, r') => match mpiAll n r' with
      | .inl e => .inl e
      | .inr l => .inr (v :: l)

/-- Numbers in a list. -/
def natsV (l : List Nat) : List V := l.map fun v => .sl false false 1 (numV .u32 (dig W32 v))
theorem natsV_append (l m : List Nat) : natsV (l ++ m) = natsV l ++ natsV m := by simp [natsV]
theorem natsV_length (l : List Nat) : (natsV l).length = l.length := by simp [natsV]

def allR (o : Nat ⊕ List Nat) : List V × Int := match o with
  | .inl e => (nilV, (e : Int))
  | .inr l => (natsV l, 0)

/-! There and back. -/
theorem mpiT_mpiB (v : Nat) (r : List UInt8) (h : bitlen v ≤ 16384) : mpiT (mpiB v ++ r) = .inr (v, r) := by
  have h2 : (mpiB v ++ r).take 2 = beN 2 (bitlen v) := by
    rw [mpiB, List.append_assoc]
    exact List.take_left' (beN_length _ _)
  have hd : (mpiB v ++ r).drop 2 = be v ++ r := by
    rw [mpiB, List.append_assoc]
    exact List.drop_left' (beN_length _ _)
  have hv : beval (beN 2 (bitlen v)) = bitlen v := by rw [beval_beN]; exact Nat.mod_eq_of_lt (by omega)
  unfold mpiT
  rw [h2, hd, hv]
  rw [if_neg (by simp [mpiB_length]; omega), if_neg (by omega), if_neg (by simp [be_length]), List.take_left' (be_length v), List.drop_left' (be_length v), beval_be]
  simp
end Go.Proofs.YtffofdfikmpanaaGreat.A

namespace Go.Proofs.YtffofdfikmpanaaGreat.A
set_option linter.unusedVariables false
set_option linter.unusedSimpArgs false
set_option maxRecDepth 10000

/-- A key. -/
structure KeyM where
  ver : Int
  cr : Nat
  alg : Int
  n : List Nat
  e : List Nat
  pt : List UInt8

/-- Bytes as an array's numbers. -/
def intB (l : List UInt8) : List Int := l.map fun b => (b.toNat : Int)
@[simp] theorem intB_length (l : List UInt8) : (intB l).length = l.length := by simp [intB]
theorem intB_getD (l : List UInt8) (i : Nat) : (intB l).getD i 0 = ((l.getD i 0).toNat : Int) := by
  simp only [intB, List.getD_eq_getElem?_getD, List.getElem?_map]
  cases l[i]? <;> rfl
theorem intB_inj {l m : List UInt8} (h : intB l = intB m) : l = m := by
  unfold intB at h
  refine List.map_inj_right (fun a b h => ?_) |>.1 h
  exact UInt8.toNat_inj.1 (by omega)
theorem fitI_intB {l : List UInt8} {n : Nat} (h : l.length = n) : fitI (intB l) 0 n = intB l := fitI_eq (by simpa using h)
theorem arrV_intB {l : List UInt8} {n : Nat} (h : l.length = n) : arrV .u8 (intB l) 0 n = bytesV l := by
  refine List.ext_getElem? fun i => ?_
  by_cases hi : i < n
  · rw [arrV_get hi, Nat.zero_add, intB_getD, bytesV_getD (by omega)]; rfl
  · rw [List.getElem?_eq_none (by rw [arrV_length]; omega), List.getElem?_eq_none (by rw [bytesV_length]; omega)]
theorem intsOf_bytesV {l : List UInt8} {n : Nat} (h : l.length = n) : intsOf .u8 n (bytesV l) = some (intB l) := by
  subst h
  induction l with
  | nil => rfl
  | cons b l ih => simp only [bytesV_cons, List.length_cons, intsOf, byteV, ih]; rfl

def KeyM.tup (k : KeyM) : Int × Int × Int × List V × List V × List Int := (k.ver, (k.cr : Int), k.alg, numV .u32 k.n, numV .u32 k.e, intB k.pt)
structure KeyM.Ok (k : KeyM) : Prop where
  v1 : -9223372036854775808 ≤ k.ver
  v2 : k.ver ≤ 9223372036854775807
  c : k.cr < 4294967296
  a1 : -9223372036854775808 ≤ k.alg
  a2 : k.alg ≤ 9223372036854775807
  n : isW k.n
  e : isW k.e
  nl : k.n.length ≤ 100000
  el : k.e.length ≤ 100000
  p : k.pt.length = 32

def KeyM.N (k : KeyM) : Nat := val W32 k.n
def KeyM.E (k : KeyM) : Nat := val W32 k.e
def zero32 : List UInt8 := List.replicate 32 0
theorem intB_zero : intB zero32 = rep 32 0 := by decide +kernel

def KeyM.may (k : KeyM) : Prop := (k.ver = 4 ∨ k.ver = 6) ∧ (k.alg = 1 ∧ k.pt = zero32 ∧ bitlen k.N ≤ 16384 ∧ bitlen k.E ≤ 16384 ∨ k.alg = 27 ∧ k.n = [] ∧ k.e = [])
instance (k : KeyM) : Decidable k.may := by unfold KeyM.may; infer_instance
def KeyM.mat (k : KeyM) : List UInt8 := if k.alg = 27 then k.pt else mpiB k.N ++ mpiB k.E
def KeyM.body (k : KeyM) : List UInt8 := [UInt8.ofNat k.ver.toNat] ++ beN 4 k.cr ++ [UInt8.ofNat k.alg.toNat] ++ (if k.ver = 6 then beN 4 k.mat.length else []) ++ k.mat

theorem key_short_eq (l : List Nat) (hl : isW l) (hn : l.length ≤ 1000000) : F_key_isShort (numV .u32 l) = some (decide (bitlen (val W32 l) ≤ 16384)) := by
  unfold F_key_isShort
  rw [nat_bits_eq l hl hn]
  simp only [Option.bind_some]
  refine congrArg some (decide_eq_decide.2 ?_)
  omega

theorem no_may {k : KeyM} (h : ¬ k.may) : (some false : Option Bool) = some (decide k.may) := by rw [decide_eq_false h]
theorem iff_may {k : KeyM} {p : Prop} [Decidable p] (h : p ↔ k.may) : (some (decide p) : Option Bool) = some (decide k.may) := by rw [decide_eq_decide.2 h]

theorem key_may_eq (k : KeyM) (h : k.Ok) : F_key_may k.tup = some (decide k.may) := by
  unfold F_key_may KeyM.tup
  simp only [fitI_intB h.p, bne_iff_ne, beq_iff_eq, len_numV]
  by_cases hv : k.ver = 4 ∨ k.ver = 6
  · have h0 : (if k.ver ≠ 4 then some (k.ver != 6) else some false : Option Bool) = some false := by
      rcases hv with h | h <;> simp [h]
    rw [h0]
    simp only [Option.bind_some, Bool.false_eq_true, if_false]
    by_cases h1 : k.alg = 1
    · rw [if_pos h1]
      by_cases hz : k.pt = zero32
      · rw [if_pos (by rw [hz, intB_zero]), key_short_eq _ h.n (by have := h.nl; omega), key_short_eq _ h.e (by have := h.el; omega)]
        simp only [Option.bind_some, decide_eq_true_eq]
        split
        · rename_i g
          refine iff_may ⟨fun q => ⟨hv, .inl ⟨h1, hz, g, q⟩⟩, ?_⟩
          rintro ⟨_, ⟨_, _, _, q⟩ | ⟨q, _⟩⟩
          · exact q
          · omega
        · rename_i g
          refine no_may ?_
          rintro ⟨_, ⟨_, _, q, _⟩ | ⟨q, _⟩⟩
          · exact g q
          · omega
      · rw [if_neg (fun g => hz (intB_inj (g.trans intB_zero.symm)))]
        simp only [Option.bind_some]
        refine no_may ?_
        rintro ⟨_, ⟨_, q, _⟩ | ⟨q, _⟩⟩
        · exact hz q
        · omega
    · rw [if_neg h1]
      by_cases h27 : k.alg = 27
      · rw [if_pos h27]
        split
        · rename_i g
          simp only [Option.bind_some]
          refine (congrArg some (show ((k.e.length : Int) == 0) = decide ((k.e.length : Int) = 0) from rfl)).trans (iff_may ⟨?_, ?_⟩)
          · exact fun q => ⟨hv, .inr ⟨h27, List.eq_nil_of_length_eq_zero (by omega), List.eq_nil_of_length_eq_zero (by omega)⟩⟩
          · rintro ⟨_, ⟨q, _⟩ | ⟨_, _, q⟩⟩
            · omega
            · rw [q]; rfl
        · rename_i g
          simp only [Option.bind_some]
          refine no_may ?_
          rintro ⟨_, ⟨q, _⟩ | ⟨_, q, _⟩⟩
          · omega
          · exact g (by rw [q]; rfl)
      · rw [if_neg h27]
        refine no_may ?_
        rintro ⟨_, ⟨q, _⟩ | ⟨q, _⟩⟩
        · exact h1 q
        · exact h27 q
  · have h0 : (if k.ver ≠ 4 then some (k.ver != 6) else some false : Option Bool) = some true := by
      rw [if_pos (fun g => hv (.inl g))]; simp only [Option.some.injEq, bne_iff_ne]; exact fun g => hv (.inr g)
    rw [h0]
    simp only [Option.bind_some, if_true]
    exact no_may fun g => hv g.1

theorem key_put_eq (b : List UInt8) (n w : Nat) (h1 : 1 ≤ w) (h8 : w ≤ 8) (hn : n < 256 ^ w) (hb : b.length ≤ 2000000000) (hn2 : n < 18446744073709551616) : F_key_put (bytesV b, (n : Int), (w : Int)) = some (bytesV (b ++ beN w n)) := by
  unfold F_key_put
  dsimp only
  rw [wu64_nat, Nat.mod_eq_of_lt hn2, cur_put_eq b n w h1 h8 hn hb]
  simp only [Option.bind_some, all_eq]

theorem KeyM.mat_length {k : KeyM} (h : k.Ok) (hm : k.may) : k.mat.length ≤ 4200 := by
  unfold KeyM.mat
  obtain ⟨_, ⟨h1, _, h2, h3⟩ | ⟨h1, _⟩⟩ := hm
  · rw [if_neg (by omega)]; simp only [List.length_append, mpiB_length]; omega
  · rw [if_pos h1, h.p]; omega

theorem key_material_eq (k : KeyM) (h : k.Ok) (hm : k.may) : F_key_material k.tup = some (bytesV k.mat) := by
  unfold F_key_material KeyM.tup
  simp only [beq_iff_eq, arrV_intB h.p]
  unfold KeyM.mat
  obtain ⟨_, ⟨h1, _, h2, h3⟩ | ⟨h1, _⟩⟩ := hm
  · rw [if_neg (by omega), if_neg (by omega)]
    have e1 := mpi_put_eq [] k.n h.n (by have := h.nl; omega) (by simp)
    rw [show val W32 k.n = k.N from rfl, if_pos h2] at e1
    rw [show (nilV, numV .u32 k.n) = (bytesV [], numV .u32 k.n) from rfl, e1]
    simp only [Option.bind_some, all_eq, List.nil_append]
    have e2 := mpi_put_eq (mpiB k.N) k.e h.e (by have := h.el; omega) (by rw [mpiB_length]; omega)
    rw [show val W32 k.e = k.E from rfl, if_pos h3] at e2
    rw [e2]
    simp only [Option.bind_some, all_eq]
  · rw [if_pos h1, if_pos h1]

theorem one_byte {v : Int} (h1 : 0 ≤ v) (h2 : v < 256) : V.int .u8 (wu8 v) = byteV (UInt8.ofNat v.toNat) := by
  obtain ⟨n, rfl⟩ := Int.eq_ofNat_of_zero_le h1
  rw [wu8_nat, byteV_of]; rfl

theorem key_emit_eq (k : KeyM) (h : k.Ok) : F_key_Emit k.tup = some (if k.may then (bytesV k.body, 0) else (nilV, 1)) := by
  have hmay := key_may_eq k h
  have hmat := key_material_eq k h
  unfold KeyM.tup at hmay hmat
  unfold F_key_Emit KeyM.tup
  simp only [fitI_intB h.p]
  rw [hmay]
  simp only [Option.bind_some, Bool.not_eq_true', decide_eq_false_iff_not, beq_iff_eq]
  by_cases hm : k.may
  · rw [if_neg (by simpa using hm), hmat hm, if_pos hm]
    simp only [Option.bind_some]
    have hl := KeyM.mat_length h hm
    have hv : 0 ≤ k.ver ∧ k.ver < 256 := by obtain ⟨h | h, _⟩ := hm <;> omega
    have ha : 0 ≤ k.alg ∧ k.alg < 256 := by obtain ⟨_, ⟨h, _⟩ | ⟨h, _⟩⟩ := hm <;> omega
    have hc := h.c
    rw [one_byte hv.1 hv.2, one_byte ha.1 ha.2, w64_nat (by omega)]
    have e1 := key_put_eq [UInt8.ofNat k.ver.toNat] k.cr 4 (by omega) (by omega) (by omega) (by simp) (by omega)
    rw [show ((4 : Nat) : Int) = 4 from rfl, show bytesV [UInt8.ofNat k.ver.toNat] = [byteV (UInt8.ofNat k.ver.toNat)] from rfl] at e1
    rw [e1]
    simp only [Option.bind_some, bytesV_length, List.length_append, List.length_cons, List.length_nil, beN_length, all_eq]
    rw [if_pos (by omega), show bytesV ([UInt8.ofNat k.ver.toNat] ++ beN 4 k.cr) ++ [byteV (UInt8.ofNat k.alg.toNat)] = bytesV ([UInt8.ofNat k.ver.toNat] ++ beN 4 k.cr ++ [UInt8.ofNat k.alg.toNat]) from (bytesV_append _ [_]).symm]
    by_cases h6 : k.ver = 6
    · rw [if_pos h6, len_bytesV]
      have e2 := key_put_eq ([UInt8.ofNat k.ver.toNat] ++ beN 4 k.cr ++ [UInt8.ofNat k.alg.toNat]) k.mat.length 4 (by omega) (by omega) (by omega) (by simp [beN_length]) (by omega)
      rw [show ((4 : Nat) : Int) = 4 from rfl] at e2
      rw [e2]
      simp only [Option.bind_some, bytesV_length, List.length_append, List.length_cons, List.length_nil, beN_length]
      rw [if_pos (by omega), ← bytesV_append]
      simp only [KeyM.body, if_pos h6]
    · rw [if_neg h6]
      simp only [Option.bind_some, bytesV_length, List.length_append, List.length_cons, List.length_nil, beN_length]
      rw [if_pos (by omega), ← bytesV_append]
      simp only [KeyM.body, if_neg h6, List.append_nil]
  · rw [if_pos (by simpa using hm), if_neg hm]

def KeyM.image (k : KeyM) : List UInt8 := if k.ver = 6 then [155] ++ beN 4 k.body.length ++ k.body else [153] ++ beN 2 k.body.length ++ k.body
theorem KeyM.body_length {k : KeyM} (h : k.Ok) (hm : k.may) : k.body.length ≤ 4300 := by
  have := KeyM.mat_length h hm
  unfold KeyM.body
  simp only [List.length_append, List.length_cons, List.length_nil, beN_length]
  split <;> simp [beN_length] <;> omega

theorem bytes_equal_eq (a b : List UInt8) : F_bytes_Equal (bytesV a, bytesV b) = some (a == b) := by
  unfold F_bytes_Equal
  simp only [unbytes_bytesV, Option.bind_some]

end Go.Proofs.YtffofdfikmpanaaGreat.A

namespace Go.Proofs.YtffofdfikmpanaaGreat.A
set_option linter.unusedVariables false
set_option linter.unusedSimpArgs false
set_option maxRecDepth 10000

/-- A key's numbers of bytes. -/
def keyFill (ver : Int) (cr : Nat) (alg : Int) (m : List UInt8) : Nat ⊕ KeyM :=
  if alg = 27 then (if m.length = 32 then .inr ⟨ver, cr, alg, [], [], m⟩ else .inl 3)
  else match mpiAll 2 m with
    | .inl e => .inl e
    | .inr l => .inr ⟨ver, cr, alg, dig W32 (l.getD 0 0), dig W32 (l.getD 1 0), zero32⟩

/-- The key of bytes. -/
def keyParse (b : List UInt8) : Nat ⊕ KeyM :=
  if b.length < 1 then .inl 2
  else if beval (b.take 1) ≠ 4 ∧ beval (b.take 1) ≠ 6 then .inl 3
  else if b.length < 6 then .inl 2
  else if beval ((b.drop 5).take 1) ≠ 1 ∧ beval ((b.drop 5).take 1) ≠ 27 then .inl 9
  else if beval (b.take 1) ≠ 6 then keyFill (beval (b.take 1) : Nat) (beval ((b.drop 1).take 4)) (beval ((b.drop 5).take 1) : Nat) (b.drop 6)
  else if b.length < 10 then .inl 2
  else if beval ((b.drop 6).take 4) ≠ b.length - 10 then .inl 3
  else keyFill (beval (b.take 1) : Nat) (beval ((b.drop 1).take 4)) (beval ((b.drop 5).take 1) : Nat) (b.drop 10)

def zeroKey : KeyM := ⟨0, 0, 0, [], [], zero32⟩
def parseR (o : Nat ⊕ KeyM) : (Int × Int × Int × List V × List V × List Int) × Int := match o with
  | .inl e => (zeroKey.tup, (e : Int))
  | .inr k => (k.tup, 0)

theorem zeroKey_tup : zeroKey.tup = (0, 0, 0, nilV, nilV, rep 32 0) := by
  unfold KeyM.tup zeroKey
  rw [intB_zero]; rfl

theorem mpiAll_length : ∀ {n : Nat} {r : List UInt8} {l : List Nat}, mpiAll n r = .inr l → l.length = n
  | 0, r, l, h => by
    unfold mpiAll at h
    split at h <;> cases h
    rfl
  | n + 1, r, l, h => by
    unfold mpiAll at h
    split at h
    · cases h
    · split at h
      · cases h
      · rename_i h2
        cases h
        simp [mpiAll_length h2]

theorem beval1_lt (b : List UInt8) (k : Nat) : beval (b.take k) < 256 ^ k := by
  have := beval_lt (b.take k)
  refine Nat.lt_of_lt_of_le this (Nat.pow_le_pow_right (by decide) ?_)
  simp; omega

end Go.Proofs.YtffofdfikmpanaaGreat.A

namespace Go.Proofs.YtffofdfikmpanaaGreat.A
set_option linter.unusedVariables false
set_option linter.unusedSimpArgs false
set_option maxRecDepth 10000

theorem beval_one (b : UInt8) : beval [b] = b.toNat := by simp [beval]

theorem keyParse_parts (x a : UInt8) (c t : List UInt8) (hc : c.length = 4) : keyParse (x :: (c ++ a :: t)) =
    if x.toNat ≠ 4 ∧ x.toNat ≠ 6 then .inl 3 else if a.toNat ≠ 1 ∧ a.toNat ≠ 27 then .inl 9
    else if x.toNat ≠ 6 then keyFill (x.toNat : Nat) (beval c) (a.toNat : Nat) t
    else if t.length < 4 then .inl 2 else if beval (t.take 4) ≠ t.length - 4 then .inl 3 else keyFill (x.toNat : Nat) (beval c) (a.toNat : Nat) (t.drop 4) := by
  match c, hc with
  | [c1, c2, c3, c4], _ =>
    unfold keyParse
    simp only [List.cons_append, List.nil_append, List.length_cons, List.take_succ_cons, List.take_zero, List.drop_succ_cons, List.drop_zero, beval_one]
    rw [if_neg (by omega)]
    split
    · rfl
    · rw [if_neg (by omega)]
      split
      · rfl
      · split
        · rfl
        · by_cases h : t.length < 4
          · rw [if_pos (by omega), if_pos h]
          · rw [if_neg (by omega), if_neg h]
            rw [show t.length + 1 + 1 + 1 + 1 + 1 + 1 - 10 = t.length - 4 by omega]

theorem KeyM.body_parts (k : KeyM) : k.body = UInt8.ofNat k.ver.toNat :: (beN 4 k.cr ++ UInt8.ofNat k.alg.toNat :: ((if k.ver = 6 then beN 4 k.mat.length else []) ++ k.mat)) := by
  simp [KeyM.body]

/-- The key that is parsed again. -/
def KeyM.norm (k : KeyM) : KeyM := if k.alg = 27 then k else { k with n := dig W32 k.N, e := dig W32 k.E }

theorem small_nat {v : Int} {c : Nat} (h : v = (c : Int)) (hc : c < 256) : (UInt8.ofNat v.toNat).toNat = c := by
  subst h; rw [Int.toNat_natCast, UInt8.toNat_ofNat']; omega

theorem mpiAll_two (a b : Nat) (r : List UInt8) (ha : bitlen a ≤ 16384) (hb : bitlen b ≤ 16384) : mpiAll 2 (mpiB a ++ mpiB b ++ r) = if r = [] then .inr [a, b] else .inl 3 := by
  rw [List.append_assoc]
  simp only [mpiAll, mpiT_mpiB _ _ ha, mpiT_mpiB _ _ hb]
  by_cases h : r = [] <;> simp [h]

theorem mpiT_short (v : Nat) (h : bitlen v ≤ 16384) : mpiT ((mpiB v).take ((mpiB v).length - 1)) = .inl 2 := by
  unfold mpiT
  rw [mpiB_length]
  have hl : ((mpiB v).take (2 + (bitlen v + 7) / 8 - 1)).length = 2 + (bitlen v + 7) / 8 - 1 := by rw [List.length_take, mpiB_length]; omega
  by_cases h0 : (bitlen v + 7) / 8 = 0
  · rw [if_pos (by rw [hl]; omega)]
  · rw [if_neg (by rw [hl]; omega)]
    have h2 : ((mpiB v).take (2 + (bitlen v + 7) / 8 - 1)).take 2 = beN 2 (bitlen v) := by
      rw [List.take_take, Nat.min_eq_left (by omega), mpiB, List.take_left' (beN_length _ _)]
    have hv : beval (beN 2 (bitlen v)) = bitlen v := by rw [beval_beN]; exact Nat.mod_eq_of_lt (by omega)
    rw [h2, hv, if_neg (by omega), if_pos (by rw [List.length_drop, hl]; omega)]

theorem mpiAll_short (a b : Nat) (ha : bitlen a ≤ 16384) (hb : bitlen b ≤ 16384) : mpiAll 2 (mpiB a ++ (mpiB b).take ((mpiB b).length - 1)) = .inl 2 := by
  simp only [mpiAll, mpiT_mpiB _ _ ha, mpiT_short _ hb]

theorem KeyM.mat_rsa {k : KeyM} (h : k.alg = 1) : k.mat = mpiB k.N ++ mpiB k.E := by unfold KeyM.mat; rw [if_neg (by omega)]
theorem KeyM.mat_curve {k : KeyM} (h : k.alg = 27) : k.mat = k.pt := by unfold KeyM.mat; rw [if_pos h]

theorem fill_back (k : KeyM) (h : k.Ok) (hm : k.may) : keyFill k.ver k.cr k.alg k.mat = .inr k.norm := by
  unfold keyFill KeyM.norm
  obtain ⟨_, ⟨h1, h4, h2, h3⟩ | ⟨h1, h5, h6⟩⟩ := hm
  · rw [if_neg (by omega), if_neg (by omega), KeyM.mat_rsa h1]
    have := mpiAll_two k.N k.E [] h2 h3
    rw [List.append_nil, if_pos rfl] at this
    rw [this]
    obtain ⟨ver, cr, alg, n, e, pt⟩ := k
    simp only at h4 ⊢
    rw [h4]; rfl
  · rw [if_pos h1, if_pos h1, KeyM.mat_curve h1, if_pos h.p]
    obtain ⟨ver, cr, alg, n, e, pt⟩ := k
    simp only at h5 h6 ⊢
    rw [h5, h6]
theorem fill_more (k : KeyM) (h : k.Ok) (hm : k.may) : keyFill k.ver k.cr k.alg (k.mat ++ [0]) = .inl 3 := by
  unfold keyFill
  obtain ⟨_, ⟨h1, h4, h2, h3⟩ | ⟨h1, h5, h6⟩⟩ := hm
  · rw [if_neg (by omega), KeyM.mat_rsa h1, mpiAll_two _ _ _ h2 h3, if_neg (by simp)]
  · rw [if_pos h1, KeyM.mat_curve h1, if_neg (by simp [h.p])]
theorem KeyM.mat_pos {k : KeyM} (h : k.Ok) (hm : k.may) : 0 < k.mat.length := by
  obtain ⟨_, ⟨h1, h4, h2, h3⟩ | ⟨h1, h5, h6⟩⟩ := hm
  · rw [KeyM.mat_rsa h1]; simp only [List.length_append, mpiB_length]; omega
  · rw [KeyM.mat_curve h1, h.p]; omega
theorem fill_less (k : KeyM) (h : k.Ok) (hm : k.may) : ∃ e, e ≠ 0 ∧ keyFill k.ver k.cr k.alg (k.mat.take (k.mat.length - 1)) = .inl e := by
  unfold keyFill
  obtain ⟨_, ⟨h1, h4, h2, h3⟩ | ⟨h1, h5, h6⟩⟩ := hm
  · refine ⟨2, by decide, ?_⟩
    rw [if_neg (by omega), KeyM.mat_rsa h1]
    have hl := mpiB_length k.E
    have : (mpiB k.N ++ mpiB k.E).take ((mpiB k.N ++ mpiB k.E).length - 1) = mpiB k.N ++ (mpiB k.E).take ((mpiB k.E).length - 1) := by
      rw [List.length_append, show (mpiB k.N).length + (mpiB k.E).length - 1 = (mpiB k.N).length + ((mpiB k.E).length - 1) by omega, List.take_length_add_append]
    rw [this, mpiAll_short _ _ h2 h3]
  · refine ⟨3, by decide, ?_⟩
    rw [if_pos h1, KeyM.mat_curve h1, if_neg (by rw [List.length_take, h.p]; omega)]

theorem parse_tail (k : KeyM) (h : k.Ok) (hm : k.may) (t : List UInt8) : keyParse (UInt8.ofNat k.ver.toNat :: (beN 4 k.cr ++ UInt8.ofNat k.alg.toNat :: t)) =
    if k.ver ≠ 6 then keyFill k.ver k.cr k.alg t else if t.length < 4 then .inl 2 else if beval (t.take 4) ≠ t.length - 4 then .inl 3 else keyFill k.ver k.cr k.alg (t.drop 4) := by
  rw [keyParse_parts _ _ _ _ (beN_length _ _)]
  have hc : beval (beN 4 k.cr) = k.cr := by rw [beval_beN]; exact Nat.mod_eq_of_lt h.c
  rw [hc]
  have ha : k.alg = ((if k.alg = 1 then 1 else 27 : Nat) : Int) := by
    obtain ⟨_, ⟨h, _⟩ | ⟨h, _⟩⟩ := hm
    · rw [if_pos h, h]; rfl
    · rw [if_neg (by omega), h]; rfl
  have hv : k.ver = ((if k.ver = 4 then 4 else 6 : Nat) : Int) := by
    obtain ⟨h | h, _⟩ := hm
    · rw [if_pos h, h]; rfl
    · rw [if_neg (by omega), h]; rfl
  have ha2 := small_nat ha (by split <;> omega)
  have hv2 := small_nat hv (by split <;> omega)
  rw [ha2, hv2, if_neg (by split <;> omega), if_neg (by split <;> omega), ← ha, ← hv]
  by_cases h6 : k.ver = 6
  · rw [if_neg (show ¬ ((if k.ver = 4 then 4 else 6 : Nat) ≠ 6) by rw [if_neg (by omega)]; simp), if_neg (show ¬ (k.ver ≠ 6) by simpa using h6)]
  · have h4 : k.ver = 4 := by obtain ⟨h | h, _⟩ := hm <;> omega
    rw [if_pos (show (if k.ver = 4 then 4 else 6 : Nat) ≠ 6 by rw [if_pos h4]; decide), if_pos h6]

theorem parse_back (k : KeyM) (h : k.Ok) (hm : k.may) : keyParse k.body = .inr k.norm := by
  have hl := KeyM.mat_length h hm
  rw [KeyM.body_parts, parse_tail k h hm]
  by_cases h6 : k.ver = 6
  · rw [if_neg (by simpa using h6), if_pos h6, if_neg (by simp [beN_length]), List.take_left' (beN_length _ _), List.drop_left' (beN_length _ _), beval_beN,
      Nat.mod_eq_of_lt (by omega), if_neg (by simp [beN_length]), fill_back k h hm]
  · rw [if_pos h6, if_neg h6, List.nil_append, fill_back k h hm]
theorem parse_more (k : KeyM) (h : k.Ok) (hm : k.may) : keyParse (k.body ++ [0]) = .inl 3 := by
  have hl := KeyM.mat_length h hm
  rw [KeyM.body_parts, List.cons_append, List.append_assoc, List.cons_append, List.append_assoc, parse_tail k h hm]
  by_cases h6 : k.ver = 6
  · rw [if_neg (by simpa using h6), if_pos h6, if_neg (by simp [beN_length]), List.take_left' (beN_length _ _), beval_beN,
      Nat.mod_eq_of_lt (by omega), if_pos (by simp [beN_length])]
  · rw [if_pos h6, if_neg h6, List.nil_append, fill_more k h hm]
theorem parse_less (k : KeyM) (h : k.Ok) (hm : k.may) : ∃ e, e ≠ 0 ∧ keyParse (k.body.take (k.body.length - 1)) = .inl e := by
  have hl := KeyM.mat_length h hm
  have hp := KeyM.mat_pos h hm
  have key : ∀ (x a : UInt8) (c s m : List UInt8), c.length = 4 → 0 < m.length → (x :: (c ++ a :: (s ++ m))).take ((x :: (c ++ a :: (s ++ m))).length - 1) = x :: (c ++ a :: (s ++ m.take (m.length - 1))) := by
    intro x a c s m hc hm
    match c, hc with
    | [c1, c2, c3, c4], _ =>
      simp only [List.cons_append, List.nil_append, List.length_cons, List.length_append]
      rw [show s.length + m.length + 1 + 1 + 1 + 1 + 1 + 1 - 1 = (s.length + (m.length - 1)) + 1 + 1 + 1 + 1 + 1 + 1 by omega]
      simp only [List.take_succ_cons, List.take_length_add_append]
  rw [KeyM.body_parts, key _ _ _ _ _ (beN_length _ _) hp, parse_tail k h hm]
  by_cases h6 : k.ver = 6
  · refine ⟨3, by decide, ?_⟩
    rw [if_neg (by simpa using h6), if_pos h6, if_neg (by simp [beN_length]), List.take_left' (beN_length _ _), beval_beN,
      Nat.mod_eq_of_lt (by omega), if_pos (by simp [beN_length]; omega)]
  · rw [if_pos h6, if_neg h6, List.nil_append]
    exact fill_less k h hm

/-! ### The law -/

theorem small23 (k : KeyM) : F_affiantref23_Small (k.ver, (k.cr : Int), k.alg, numV .u32 k.n, numV .u32 k.e, intB k.pt) = some (decide (k.n.length ≤ 520 ∧ k.e.length ≤ 520)) := by
  unfold F_affiantref23_Small
  simp only [len_numV, decide_eq_true_eq]
  by_cases h : k.n.length ≤ 520
  · rw [if_pos (by omega)]
    simp only [Option.bind_some]
    refine congrArg some (decide_eq_decide.2 ?_); omega
  · rw [if_neg (by omega)]
    simp only [Option.bind_some]
    refine congrArg some (Eq.symm (decide_eq_false ?_)); omega

theorem dig_len_bits {v k : Nat} (h : bitlen v ≤ 32 * k) : (dig W32 v).length ≤ k := dig_length_le (by decide) (by
  have := bitlen_le.1 h
  rw [W32_pow, ← Nat.pow_mul]; exact this)
theorem KeyM.norm_ok {k : KeyM} (h : k.Ok) (hm : k.may) : k.norm.Ok := by
  unfold KeyM.norm
  split
  · exact h
  · have hlen : ∀ v, bitlen v ≤ 16384 → (dig W32 v).length ≤ 512 := fun v hv => dig_len_bits (by omega)
    obtain ⟨_, ⟨h1, h4, h2, h3⟩ | ⟨h1, _⟩⟩ := hm
    · exact ⟨h.v1, h.v2, h.c, h.a1, h.a2, isW_dig _, isW_dig _, by have := hlen _ h2; simp only; omega, by have := hlen _ h3; simp only; omega, h.p⟩
    · contradiction
theorem KeyM.norm_N (k : KeyM) : k.norm.N = k.N := by
  unfold KeyM.norm; split
  · rfl
  · exact val_dig (by decide) _
theorem KeyM.norm_E (k : KeyM) : k.norm.E = k.E := by
  unfold KeyM.norm; split
  · rfl
  · exact val_dig (by decide) _
theorem KeyM.norm_ver (k : KeyM) : k.norm.ver = k.ver := by unfold KeyM.norm; split <;> rfl
theorem KeyM.norm_cr (k : KeyM) : k.norm.cr = k.cr := by unfold KeyM.norm; split <;> rfl
theorem KeyM.norm_alg (k : KeyM) : k.norm.alg = k.alg := by unfold KeyM.norm; split <;> rfl
theorem KeyM.norm_pt (k : KeyM) : k.norm.pt = k.pt := by unfold KeyM.norm; split <;> rfl
theorem KeyM.norm_may {k : KeyM} (hm : k.may) : k.norm.may := by
  unfold KeyM.may
  rw [KeyM.norm_ver, KeyM.norm_alg, KeyM.norm_pt, KeyM.norm_N, KeyM.norm_E]
  refine ⟨hm.1, ?_⟩
  rcases hm.2 with h | ⟨h1, h2, h3⟩
  · exact .inl h
  · exact .inr ⟨h1, by unfold KeyM.norm; rw [if_pos h1]; exact h2, by unfold KeyM.norm; rw [if_pos h1]; exact h3⟩
theorem KeyM.norm_body (k : KeyM) : k.norm.body = k.body := by
  unfold KeyM.body KeyM.mat
  rw [KeyM.norm_ver, KeyM.norm_cr, KeyM.norm_alg, KeyM.norm_pt, KeyM.norm_N, KeyM.norm_E]
theorem KeyM.norm_image (k : KeyM) : k.norm.image = k.image := by
  unfold KeyM.image
  rw [KeyM.norm_ver, KeyM.norm_body]

/-- What any key that comes in meets. -/
structure KeyM.Ok0 (k : KeyM) : Prop where
  v1 : -9223372036854775808 ≤ k.ver
  v2 : k.ver ≤ 9223372036854775807
  c : k.cr < 4294967296
  a1 : -9223372036854775808 ≤ k.alg
  a2 : k.alg ≤ 9223372036854775807
  n : isW k.n
  e : isW k.e
  p : k.pt.length = 32
theorem KeyM.Ok0.ok {k : KeyM} (h : k.Ok0) (hn : k.n.length ≤ 100000) (he : k.e.length ≤ 100000) : k.Ok := ⟨h.v1, h.v2, h.c, h.a1, h.a2, h.n, h.e, hn, he, h.p⟩

end Go.Proofs.YtffofdfikmpanaaGreat.A

namespace Go.Proofs.YtffofdfikmpanaaGreat.A
set_option linter.unusedVariables false
set_option linter.unusedSimpArgs false
set_option maxRecDepth 10000

theorem r01_put_eq (b : List UInt8) (n w : Nat) (h1 : 1 ≤ w) (h8 : w ≤ 8) (hn : n < 256 ^ w) (hb : b.length ≤ 2000000000) : F_affiantref01_Put (bytesV b, (n : Int), (w : Int)) = some (bytesV (b ++ beN w n), 0) := by
  unfold F_affiantref01_Put
  simp only [decide_eq_true_eq, decide_eq_false_iff_not]
  rw [if_pos (by omega), if_pos (by omega)]
  have e8 : wu64 (w64 (8 * (w : Int))) = ((8 * w : Nat) : Int) := by
    rw [w64_in (by omega) (by omega), show (8 * (w : Int)) = ((8 * w : Nat) : Int) by omega, wu64_nat, Nat.mod_eq_of_lt (by omega)]
  have hc : (if (w : Int) < 8 then if wu64 (w64 (8 * (w : Int))) < 0 then none else some (decide ((n : Int) ≥ wordShl .u64 1 (wu64 (w64 (8 * (w : Int)))))) else some false : Option Bool) = some false := by
    split
    · rename_i hw
      rw [e8, if_neg (by omega), show (1 : Int) = ((1 : Nat) : Int) from rfl, wordShl_u64 _ _ (by omega), Nat.one_mul, Nat.pow_mul]
      have : (2 ^ 8) ^ w ≤ (2 ^ 8) ^ 7 := Nat.pow_le_pow_right (by decide) (by omega)
      have h7 : ((2 : Nat) ^ 8) ^ 7 < 18446744073709551616 := by decide
      rw [Nat.mod_eq_of_lt (by omega)]
      have hn' : n < (2 ^ 8) ^ w := hn
      refine congrArg some (decide_eq_false ?_)
      omega
    · rfl
  rw [hc]
  simp only [Option.bind_some, Bool.false_eq_true, if_false, bytesV_length]
  rw [if_pos (by omega)]
  have e2 : w64 ((w : Int) - 1) = (w : Int) - 1 := w64_in (by omega) (by omega)
  rw [e2]
  refine (congrArg (loopO _) ?_).trans (loopO_run (ι := Nat) (fun j => ((n : Int), bytesV (b ++ (beN w n).take j), (w : Int) - 1 - (j : Int))) (fun _ => (bytesV (b ++ beN w n), 0)) (fun j => j ≤ w) (fun j => w - j) ?_ 0 (Nat.zero_le _))
  · simp
  intro j hj
  dsimp only
  by_cases h : j < w
  · left
    refine ⟨j + 1, ?_, h, by omega, rfl⟩
    have e9 : wu64 (w64 (8 * ((w : Int) - 1 - (j : Int)))) = ((8 * (w - 1 - j) : Nat) : Int) := by
      rw [w64_in (by omega) (by omega), show (8 * ((w : Int) - 1 - (j : Int))) = ((8 * (w - 1 - j) : Nat) : Int) by omega, wu64_nat, Nat.mod_eq_of_lt (by omega)]
    rw [if_pos (by omega), e9, if_neg (by omega)]
    simp only [all_eq, bytesV_length, List.length_append, List.length_take, beN_length]
    rw [if_pos (by omega), wordShr_u64 _ _ (by omega), wu8_nat, byteV_of, Nat.pow_mul]
    have ht : (beN w n).take (j + 1) = (beN w n).take j ++ [UInt8.ofNat (n / 256 ^ (w - 1 - j))] := by
      rw [List.take_add_one, beN_get h]; rfl
    rw [ht, ← List.append_assoc, bytesV_append (b ++ _), w64_in (by omega) (by omega)]
    rw [show (w : Int) - 1 - (j : Int) - 1 = (w : Int) - 1 - ((j + 1 : Nat) : Int) by omega]
    rfl
  · right
    rw [if_neg (by omega), all_eq, List.take_of_length_le (by rw [beN_length]; omega)]

theorem dig_nil {B n : Nat} (hB : 2 ≤ B) : dig B n = [] ↔ n = 0 := by
  constructor
  · intro h; rw [← val_dig hB n, h]; rfl
  · rintro rfl; rfl

theorem getLast_getD {l : List Nat} (h : l ≠ []) : l.getLast? = some (l.getD (l.length - 1) 0) := by
  have hp : l.length ≠ 0 := fun h0 => h (List.eq_nil_of_length_eq_zero h0)
  rw [List.getLast?_eq_getElem?, List.getD_eq_getElem?_getD, List.getElem?_eq_getElem (by omega)]; rfl

theorem r04_bits_eq (l : List Nat) (hl : isW l) (hn : l.length ≤ 100000) : F_affiantref04_Bits (numV .u32 l) = some ((bitlen (val W32 l) : Nat) : Int) := by
  unfold F_affiantref04_Bits
  rw [r04_Digits_eq l hl (by omega)]
  simp only [Option.bind_some, len_numV, beq_iff_eq, decide_eq_true_eq]
  have hdl := dig16_length hl
  generalize hV : val W32 l = v at hdl ⊢
  by_cases h0 : v = 0
  · subst h0
    rw [if_pos (by rw [dig_zero]; rfl)]; rfl
  · have hne : dig B16 v ≠ [] := fun h => h0 ((dig_nil (by decide)).1 h)
    have hlen : (dig B16 v).length ≠ 0 := fun h => hne (List.eq_nil_of_length_eq_zero h)
    generalize hd : dig B16 v = d at hne hlen hdl
    have hisd : isD d := hd ▸ isD_dig v
    have hlast : d.getD (d.length - 1) 0 ≠ 0 := by
      have := dig_last (B := B16) (by decide) v
      rw [hd, getLast_getD hne] at this
      exact fun h => this (by rw [h])
    have e1 : w64 ((d.length : Int) - 1) = ((d.length - 1 : Nat) : Int) := by rw [w64_in (by omega) (by omega)]; omega
    rw [if_neg (by omega), e1, if_pos (by omega), Int.toNat_natCast, numV_getD (by omega)]
    simp only [Option.bind_some, int?_int]
    generalize hx : d.getD (d.length - 1) 0 = x at hlast
    have hx2 : x < 65536 := hx ▸ hisd.getD _
    have hv : v = val B16 (d.take (d.length - 1)) + 2 ^ (16 * (d.length - 1)) * x := by
      have h2 : d = d.take (d.length - 1) ++ [x] := by
        have := take_snoc (l := d) (i := d.length - 1) (by omega)
        rw [hx, show d.length - 1 + 1 = d.length by omega, List.take_length] at this
        exact this
      conv => lhs; rw [← val_dig (B := B16) (by decide) v, hd, h2, val_append]
      rw [List.length_take, Nat.min_eq_left (by omega), show B16 = 2 ^ 16 by decide, ← Nat.pow_mul]
      simp [val]
    have hlow : val B16 (d.take (d.length - 1)) < 2 ^ (16 * (d.length - 1)) := by
      have := val_lt (B := B16) (l := d.take (d.length - 1)) fun y hy => hisd y (List.mem_of_mem_take hy)
      rw [List.length_take, Nat.min_eq_left (by omega), show B16 = 2 ^ 16 by decide, ← Nat.pow_mul] at this
      exact this
    have hb : bitlen v = 16 * (d.length - 1) + bitlen x := by rw [hv]; exact bitlen_top (k := 0) hlast hlow
    have e2 : w64 (16 * ((d.length - 1 : Nat) : Int)) = ((16 * (d.length - 1) : Nat) : Int) := by rw [w64_in (by omega) (by omega)]; omega
    rw [e2, hb]
    have hbx : bitlen x ≤ 16 := bitlen_le.2 hx2
    refine loopO_run (ι := Nat × Nat) (fun i => ((i.1 : Int), (i.2 : Int))) (fun i => ((i.1 + bitlen i.2 : Nat) : Int)) (fun i => i.1 ≤ 10000000 ∧ i.2 < 65536 ∧ i.1 + bitlen i.2 ≤ 10000000) (fun i => i.2) ?_ (16 * (d.length - 1), x) ⟨by dsimp only; omega, hx2, by dsimp only; omega⟩
    rintro ⟨n, y⟩ ⟨h1, h2, h3⟩
    dsimp only at h1 h2 h3 ⊢
    by_cases hy : y = 0
    · right
      subst hy
      rw [if_neg (by omega)]; rfl
    · left
      have hby : bitlen y = 1 + bitlen (y / 2) := by
        rcases Nat.lt_or_ge y 2 with h4 | h4
        · rw [show y = 1 by omega]; rfl
        · have := bitlen_shift (n := y) (k := 1) (by omega)
          rw [Nat.pow_one] at this
          exact this
      refine ⟨(n + 1, y / 2), ?_, ⟨by dsimp only; omega, by dsimp only; omega, by dsimp only; omega⟩, by dsimp only; omega, by dsimp only; rw [hby]; omega⟩
      rw [if_pos (by omega), w64_in (by omega) (by omega), show (2 : Int) = ((2 : Nat) : Int) from rfl, i64_tdiv, wu64_nat, Nat.mod_eq_of_lt (by omega)]
      rfl

theorem byte_of_digit {l : List Nat} (hl : isD l) (i : Nat) : (if i % 2 = 1 then l.getD (i / 2) 0 / 256 else l.getD (i / 2) 0) % 256 = val B16 l / 256 ^ i % 256 := by
  rw [← val_digit (by decide) hl]
  generalize val B16 l = v
  have h1 : v / 256 ^ i = v / B16 ^ (i / 2) / 256 ^ (i % 2) := by
    conv => lhs; rw [← Nat.div_add_mod i 2]
    rw [Nat.pow_add, ← Nat.div_div_eq_div_mul, Nat.pow_mul]
  rw [h1]
  generalize v / B16 ^ (i / 2) = x
  show (if i % 2 = 1 then x % 65536 / 256 else x % 65536) % 256 = x / 256 ^ (i % 2) % 256
  have hc : i % 2 = 0 ∨ i % 2 = 1 := by omega
  rcases hc with h | h <;> rw [h] <;> simp <;> omega

theorem r04_fill_eq (l : List Nat) (n : Nat) (hl : isD l) (hn : n ≤ 2147483648) : F_affiantref04_fill (numV .u64 l, (n : Int)) = some (bytesV (beN n (val B16 l))) := by
  unfold F_affiantref04_fill
  simp only [decide_eq_true_eq, beq_iff_eq]
  rw [if_pos (by omega)]
  refine (congrArg (loopO _) ?_).trans (loopO_run (ι := Nat) (fun i => (numV .u64 l, (n : Int), bytesV (List.replicate (n - i) 0 ++ beN i (val B16 l)), (i : Int))) (fun _ => bytesV (beN n (val B16 l))) (fun i => i ≤ n) (fun i => n - i) ?_ 0 (Nat.zero_le _))
  · simp only [beN, List.append_nil, Nat.sub_zero, bytesV_replicate, byteV_zero, rep, Int.toNat_natCast]; rfl
  intro i hi
  dsimp only
  by_cases h : i < n
  · left
    refine ⟨i + 1, ?_, h, by omega, rfl⟩
    rw [if_pos (by omega), show (2 : Int) = ((2 : Nat) : Int) from rfl, i64_tdiv, i64_tmod, w64_nat (n := i / 2) (by omega), r04_digit_eq]
    simp only [Option.bind_some]
    have hx : l.getD (i / 2) 0 < 65536 := hl.getD _
    have hc : (if ((i % 2 : Nat) : Int) = 1 then some (.inl (wu64 (Int.tdiv ((l.getD (i / 2) 0 : Nat) : Int) 256))) else some (.inl ((l.getD (i / 2) 0 : Nat) : Int)) : Option (Int ⊕ ((List V × Int × List V × Int) ⊕ List V))) =
        some (.inl (((if i % 2 = 1 then l.getD (i / 2) 0 / 256 else l.getD (i / 2) 0 : Nat)) : Int)) := by
      by_cases h2 : i % 2 = 1
      · rw [if_pos (by omega), if_pos h2, show (256 : Int) = ((256 : Nat) : Int) from rfl, i64_tdiv, wu64_nat, Nat.mod_eq_of_lt (by omega)]
      · rw [if_neg (by omega), if_neg h2]
    rw [hc]
    have e1 : w64 (w64 ((n : Int) - 1) - (i : Int)) = ((n - 1 - i : Nat) : Int) := by rw [w64_in (n := (n : Int) - 1) (by omega) (by omega), w64_in (by omega) (by omega)]; omega
    simp only [Option.bind_some, e1, len_bytesV, List.length_append, List.length_replicate, beN_length, Int.toNat_natCast, Nat.zero_add]
    rw [if_pos (by omega), bytesV_getD (by simp [beN_length]; omega)]
    simp only [Option.bind_some, cells_int, storeEl_byte]
    rw [wu8_nat, byte_of_digit hl, byteV_of, bytesV_set, show n - i = (n - 1 - i) + 1 by omega, set_repl]
    have e2 : w64 ((i : Int) + 1) = ((i + 1 : Nat) : Int) := w64_in (by omega) (by omega)
    rw [e2, show n - (i + 1) = n - 1 - i by omega]; rfl
  · right
    rw [if_neg (by omega), all_eq, show n - i = 0 by omega, show i = n by omega]
    rfl

theorem r04_bytes_eq (l : List Nat) (hl : isW l) (hn : l.length ≤ 100000) : F_affiantref04_Bytes (numV .u32 l) = some (bytesV (be (val W32 l))) := by
  unfold F_affiantref04_Bytes
  have hb := bitlen_val_le hl
  rw [r04_Digits_eq l hl (by omega), r04_bits_eq l hl hn]
  simp only [Option.bind_some]
  rw [w64_in (n := ((bitlen (val W32 l) : Nat) : Int) + 7) (by omega) (by omega), show ((bitlen (val W32 l) : Nat) : Int) + 7 = ((bitlen (val W32 l) + 7 : Nat) : Int) by omega, show (8 : Int) = ((8 : Nat) : Int) from rfl, i64_tdiv, w64_nat (by omega), r04_fill_eq _ _ (isD_dig _) (by omega), val_dig (by decide)]
  rfl

theorem r20_put_eq (b : List UInt8) (l : List Nat) (hl : isW l) (hn : l.length ≤ 100000) (hb : b.length ≤ 1000000000) : F_affiantref20_Put (bytesV b, numV .u32 l) = some (if bitlen (val W32 l) ≤ 16384 then (bytesV (b ++ mpiB (val W32 l)), 0) else (nilV, 4)) := by
  unfold F_affiantref20_Put
  simp only [decide_eq_true_eq]
  rw [r04_bits_eq l hl hn]
  simp only [Option.bind_some]
  by_cases h : bitlen (val W32 l) ≤ 16384
  · rw [if_neg (by omega), if_pos h, wu64_nat, Nat.mod_eq_of_lt (by omega)]
    have := r01_put_eq b (bitlen (val W32 l)) 2 (by omega) (by omega) (by omega) (by omega)
    rw [show ((2 : Nat) : Int) = 2 from rfl] at this
    rw [this]
    simp only [Option.bind_some]
    rw [r04_bytes_eq l hl hn]
    simp only [Option.bind_some, all_eq, bytesV_length, List.length_append, beN_length, be_length]
    rw [if_pos (by omega), mpiB, ← List.append_assoc, bytesV_append (b ++ _)]
  · rw [if_pos (by omega), if_neg h]
end Go.Proofs.YtffofdfikmpanaaGreat.A

namespace Go.Proofs.YtffofdfikmpanaaGreat.A
set_option linter.unusedVariables false
set_option linter.unusedSimpArgs false
set_option maxRecDepth 10000

theorem r23_may_eq (k : KeyM) (h : k.Ok) : F_affiantref23_may k.tup = some (decide k.may) := by
  unfold F_affiantref23_may KeyM.tup
  simp only [fitI_intB h.p, bne_iff_ne, beq_iff_eq, len_numV]
  have hnl := h.nl; have hel := h.el
  by_cases hv : k.ver = 4 ∨ k.ver = 6
  · have h0 : (if k.ver ≠ 4 then some (k.ver != 6) else some false : Option Bool) = some false := by
      rcases hv with h | h <;> simp [h]
    rw [h0]
    simp only [Option.bind_some, Bool.false_eq_true, if_false]
    by_cases h27 : k.alg = 27
    · rw [if_pos h27]
      split
      · rename_i g
        simp only [Option.bind_some]
        refine (congrArg some (show ((k.e.length : Int) == 0) = decide ((k.e.length : Int) = 0) from rfl)).trans (iff_may ⟨?_, ?_⟩)
        · exact fun q => ⟨hv, .inr ⟨h27, List.eq_nil_of_length_eq_zero (by omega), List.eq_nil_of_length_eq_zero (by omega)⟩⟩
        · rintro ⟨_, ⟨q, _⟩ | ⟨_, _, q⟩⟩
          · omega
          · rw [q]; rfl
      · rename_i g
        simp only [Option.bind_some]
        refine no_may ?_
        rintro ⟨_, ⟨q, _⟩ | ⟨_, q, _⟩⟩
        · omega
        · exact g (by rw [q]; rfl)
    · rw [if_neg h27]
      by_cases h1 : k.alg = 1
      · rw [if_pos h1]
        by_cases hz : k.pt = zero32
        · rw [if_pos (by rw [hz, intB_zero]), r04_bits_eq _ h.n hnl, r04_bits_eq _ h.e hel]
          simp only [Option.bind_some, decide_eq_true_eq]
          split
          · rename_i g
            simp only [Option.bind_some]
            refine iff_may ⟨fun q => ⟨hv, .inl ⟨h1, hz, (by unfold KeyM.N; omega), (by unfold KeyM.E; omega)⟩⟩, ?_⟩
            rintro ⟨_, ⟨_, _, _, q⟩ | ⟨q, _⟩⟩
            · unfold KeyM.E at q; omega
            · omega
          · rename_i g
            simp only [Option.bind_some]
            refine no_may ?_
            rintro ⟨_, ⟨_, _, q, _⟩ | ⟨q, _⟩⟩
            · unfold KeyM.N at q; omega
            · omega
        · rw [if_neg (fun g => hz (intB_inj (g.trans intB_zero.symm)))]
          simp only [Option.bind_some]
          refine no_may ?_
          rintro ⟨_, ⟨_, q, _⟩ | ⟨q, _⟩⟩
          · exact hz q
          · omega
      · rw [if_neg h1]
        simp only [Option.bind_some]
        refine no_may ?_
        rintro ⟨_, ⟨q, _⟩ | ⟨q, _⟩⟩
        · exact h1 q
        · exact h27 q
  · have h0 : (if k.ver ≠ 4 then some (k.ver != 6) else some false : Option Bool) = some true := by
      rw [if_pos (fun g => hv (.inl g))]; simp only [Option.some.injEq, bne_iff_ne]; exact fun g => hv (.inr g)
    rw [h0]
    simp only [Option.bind_some, if_true]
    exact no_may fun g => hv g.1

theorem r23_material_eq (k : KeyM) (h : k.Ok) (hm : k.may) : F_affiantref23_material k.tup = some (bytesV k.mat) := by
  unfold F_affiantref23_material KeyM.tup
  simp only [beq_iff_eq]
  unfold KeyM.mat
  have hnl := h.nl; have hel := h.el
  obtain ⟨_, ⟨h1, _, h2, h3⟩ | ⟨h1, _⟩⟩ := hm
  · rw [if_neg (by omega), if_neg (by omega)]
    have e1 := r20_put_eq [] k.n h.n hnl (by simp)
    rw [show val W32 k.n = k.N from rfl, if_pos h2] at e1
    rw [show (nilV, numV .u32 k.n) = (bytesV [], numV .u32 k.n) from rfl, e1]
    simp only [Option.bind_some, all_eq, List.nil_append]
    have e2 := r20_put_eq (mpiB k.N) k.e h.e hel (by rw [mpiB_length]; omega)
    rw [show val W32 k.e = k.E from rfl, if_pos h3] at e2
    rw [e2]
    simp only [Option.bind_some, all_eq]
  · rw [if_pos h1, if_pos h1]
    simp only [List.drop_succ_cons, List.drop_zero, arrV_intB h.p]
    rw [List.take_of_length_le (by rw [bytesV_length, h.p]; exact Nat.le_refl _)]

theorem r01_put4 (b : List UInt8) (n : Nat) (hn : n < 4294967296) (hb : b.length ≤ 2000000000) : F_affiantref01_Put (bytesV b, (n : Int), 4) = some (bytesV (b ++ beN 4 n), 0) := r01_put_eq b n 4 (by omega) (by omega) (by omega) hb
theorem r01_put2 (b : List UInt8) (n : Nat) (hn : n < 65536) (hb : b.length ≤ 2000000000) : F_affiantref01_Put (bytesV b, (n : Int), 2) = some (bytesV (b ++ beN 2 n), 0) := r01_put_eq b n 2 (by omega) (by omega) (by omega) hb

theorem r23_emit_eq (k : KeyM) (h : k.Ok) : F_affiantref23_Emit k.tup = some (if k.may then (bytesV k.body, 0) else (nilV, 1)) := by
  have hmay := r23_may_eq k h
  have hmat := r23_material_eq k h
  unfold KeyM.tup at hmay hmat
  unfold F_affiantref23_Emit KeyM.tup
  simp only [fitI_intB h.p]
  rw [hmay]
  simp only [Option.bind_some, Bool.not_eq_true', decide_eq_false_iff_not, beq_iff_eq]
  by_cases hm : k.may
  · rw [if_neg (by simpa using hm), if_pos hm]
    have hl := KeyM.mat_length h hm
    have hv : 0 ≤ k.ver ∧ k.ver < 256 := by obtain ⟨h | h, _⟩ := hm <;> omega
    have ha : 0 ≤ k.alg ∧ k.alg < 256 := by obtain ⟨_, ⟨h, _⟩ | ⟨h, _⟩⟩ := hm <;> omega
    have hc := h.c
    rw [one_byte hv.1 hv.2, one_byte ha.1 ha.2, wu64_nat, Nat.mod_eq_of_lt (by omega), show [byteV (UInt8.ofNat k.ver.toNat)] = bytesV [UInt8.ofNat k.ver.toNat] from rfl, r01_put4 _ _ hc (by simp)]
    simp only [Option.bind_some, bytesV_length, List.length_append, List.length_cons, List.length_nil, beN_length, all_eq]
    rw [if_pos (by omega), hmat hm, show bytesV ([UInt8.ofNat k.ver.toNat] ++ beN 4 k.cr) ++ [byteV (UInt8.ofNat k.alg.toNat)] = bytesV ([UInt8.ofNat k.ver.toNat] ++ beN 4 k.cr ++ [UInt8.ofNat k.alg.toNat]) from (bytesV_append _ [_]).symm]
    simp only [Option.bind_some]
    by_cases h6 : k.ver = 6
    · rw [if_pos h6, len_bytesV, wu64_nat, Nat.mod_eq_of_lt (by omega), r01_put4 _ _ (by omega) (by simp [beN_length])]
      simp only [Option.bind_some, bytesV_length, List.length_append, List.length_cons, List.length_nil, beN_length]
      rw [if_pos (by omega), ← bytesV_append]
      simp only [KeyM.body, if_pos h6]
    · rw [if_neg h6]
      simp only [Option.bind_some, bytesV_length, List.length_append, List.length_cons, List.length_nil, beN_length]
      rw [if_pos (by omega), ← bytesV_append]
      simp only [KeyM.body, if_neg h6, List.append_nil]
  · rw [if_pos (by simpa using hm), if_neg hm]

end Go.Proofs.YtffofdfikmpanaaGreat.A

namespace Go.Proofs.YtffofdfikmpanaaGreat.A
set_option linter.unusedVariables false
set_option linter.unusedSimpArgs false
set_option maxRecDepth 10000

/-- A subpacket. -/
structure SubM where
  ty : Int
  crit : Bool
  body : List UInt8
def SubM.v (s : SubM) : V := .agg [.int .i64 s.ty, .bool s.crit, .sl false false 1 (bytesV s.body)]
def subsV (l : List SubM) : List V := l.map SubM.v
@[simp] theorem subsV_length (l : List SubM) : (subsV l).length = l.length := by simp [subsV]
def SubM.ok (s : SubM) : Prop := 0 ≤ s.ty ∧ s.ty ≤ 127
instance (s : SubM) : Decidable s.ok := by unfold SubM.ok; infer_instance
def subHead (n : Nat) : List UInt8 := if n < 192 then [UInt8.ofNat n] else if n < 16320 then [UInt8.ofNat ((n - 192) / 256 + 192), UInt8.ofNat (n - 192)] else [255] ++ beN 4 n
def SubM.bytes (s : SubM) : List UInt8 := subHead (s.body.length + 1) ++ [UInt8.ofNat (s.ty.toNat + if s.crit then 128 else 0)] ++ s.body
def subsB (l : List SubM) : List UInt8 := l.flatMap SubM.bytes
/-- How much there is of subpackets. -/
def subsZ (l : List SubM) : Nat := (l.map fun s => s.body.length + 6).sum
theorem subHead_length (n : Nat) : (subHead n).length ≤ 5 := by unfold subHead; split; · simp
                                                                split <;> simp [beN_length]
theorem SubM.bytes_length (s : SubM) : s.bytes.length ≤ s.body.length + 6 := by
  have := subHead_length (s.body.length + 1)
  simp only [SubM.bytes, List.length_append, List.length_cons, List.length_nil]; omega
theorem subsB_length (l : List SubM) : (subsB l).length ≤ subsZ l := by
  induction l with
  | nil => simp [subsB, subsZ]
  | cons s l ih =>
    have := SubM.bytes_length s
    simp only [subsB, subsZ, List.flatMap_cons, List.length_append, List.map_cons, List.sum_cons] at ih ⊢; omega
theorem subsB_append (l m : List SubM) : subsB (l ++ m) = subsB l ++ subsB m := by simp [subsB]
theorem subsZ_append (l m : List SubM) : subsZ (l ++ m) = subsZ l + subsZ m := by simp [subsZ]
theorem subsZ_get {l : List SubM} {i : Nat} {s : SubM} (h : l[i]? = some s) : subsZ (l.take i) + s.body.length + 6 ≤ subsZ l := by
  have h2 : l = l.take i ++ (s :: l.drop (i + 1)) := by
    obtain ⟨hi, rfl⟩ := List.getElem?_eq_some_iff.1 h
    rw [← List.drop_eq_getElem_cons hi, List.take_append_drop]
  have h3 := subsZ_append (l.take i) (s :: l.drop (i + 1))
  rw [← h2] at h3
  simp only [subsZ, List.map_cons, List.sum_cons] at h3 ⊢; omega
theorem subsZ_len (l : List SubM) : 6 * l.length ≤ subsZ l := by
  induction l with
  | nil => simp
  | cons s l ih => simp only [subsZ, List.map_cons, List.sum_cons, List.length_cons] at ih ⊢; omega

/-- Subpackets emitted: an error, or bytes. -/
def subEmit (l : List SubM) : Nat ⊕ List UInt8 := if ∃ s ∈ l, ¬ s.ok then .inl 1 else if 40 < l.length ∨ 4000 < (subsB l).length then .inl 4 else .inr (subsB l)
def emR (o : Nat ⊕ List UInt8) : List V × Int := match o with
  | .inl e => (nilV, (e : Int))
  | .inr b => (bytesV b, 0)

@[simp] theorem st_sub (s : SubM) : V.st? [Cc.int .i64, Cc.bool, Cc.lst false 1] s.v = some (s.ty, s.crit, bytesV s.body) := by
  simp [V.st?, V.agg?, SubM.v, Cr.get, Cc.take, hdK, V.int?, V.bool?, V.lst?]

theorem kind_byte {s : SubM} (h : s.ok) : (if s.crit = true then wordOr .u8 (wu8 s.ty) 128 else wu8 s.ty) = ((s.ty.toNat + (if s.crit then 128 else 0) : Nat) : Int) := by
  obtain ⟨h1, h2⟩ := h
  obtain ⟨n, hn⟩ := Int.eq_ofNat_of_zero_le h1
  rw [hn, wu8_nat, Nat.mod_eq_of_lt (by omega), Int.toNat_natCast]
  cases s.crit
  · simp
  · simp only [if_true]
    rw [show (128 : Int) = ((128 : Nat) : Int) from rfl, wordOr_u8 (by omega) (by omega), or_low (m := 7) (by omega) ⟨1, rfl⟩]
theorem kind_byte2 {s : SubM} (h : s.ok) : (if s.crit = true then wu8 (wu8 s.ty + 128) else wu8 s.ty) = ((s.ty.toNat + (if s.crit then 128 else 0) : Nat) : Int) := by
  obtain ⟨h1, h2⟩ := h
  obtain ⟨n, hn⟩ := Int.eq_ofNat_of_zero_le h1
  rw [hn, wu8_nat, Nat.mod_eq_of_lt (by omega), Int.toNat_natCast]
  cases s.crit
  · simp
  · simp only [if_true]
    rw [show (n : Int) + 128 = ((n + 128 : Nat) : Int) by omega, wu8_nat, Nat.mod_eq_of_lt (by omega)]

theorem byteV_lt {n : Nat} (h : n < 256) : V.int .u8 (n : Int) = byteV (UInt8.ofNat n) := by rw [← byteV_of, Nat.mod_eq_of_lt h]

theorem sub_put_eq (b : List UInt8) (s : SubM) (h : s.ok) (hz : b.length + s.body.length ≤ 1000000000) : F_subpkt_put (bytesV b, s.ty, s.crit, bytesV s.body) = some (bytesV (b ++ s.bytes)) := by
  unfold F_subpkt_put
  simp only [all_eq, len_bytesV, bytesV_length, decide_eq_true_eq]
  have e1 : w64 ((s.body.length : Int) + 1) = ((s.body.length + 1 : Nat) : Int) := by rw [w64_in (by omega) (by omega)]; omega
  rw [e1]
  generalize hn : s.body.length + 1 = n
  have hk := kind_byte h
  have hk2 : s.ty.toNat + (if s.crit then 128 else 0) < 256 := by obtain ⟨h1, h2⟩ := h; split <;> omega
  -- the rest, behind the head
  have rest : ∀ (hd : List UInt8) (L : List V), L = bytesV (b ++ hd) → hd.length ≤ 5 → ((if s.crit = true then some (.inl (wordOr .u8 (wu8 s.ty) 128)) else some (.inl (wu8 s.ty)) : Option (Int ⊕ List V)).bind fun v13 => match v13 with
      | .inl v14 => if List.length L + 1 ≤ 2147483648 then if List.length (L ++ [V.int .u8 v14]) + s.body.length ≤ 2147483648 then some (L ++ [V.int .u8 v14] ++ bytesV s.body) else none else none
      | .inr v15 => some v15) = some (bytesV (b ++ (hd ++ [UInt8.ofNat (s.ty.toNat + if s.crit then 128 else 0)] ++ s.body))) := by
    rintro hd L rfl hl
    have hc : (if s.crit = true then some (.inl (wordOr .u8 (wu8 s.ty) 128)) else some (.inl (wu8 s.ty)) : Option (Int ⊕ List V)) = some (.inl ((s.ty.toNat + (if s.crit then 128 else 0) : Nat) : Int)) := by
      rw [← hk]; cases s.crit <;> rfl
    rw [hc]
    simp only [Option.bind_some, List.length_append, List.length_cons, List.length_nil, bytesV_length]
    rw [if_pos (by omega), if_pos (by omega), byteV_lt hk2]
    simp only [bytesV_append, bytesV_cons, bytesV_nil, List.append_assoc]
  unfold SubM.bytes subHead
  rw [hn]
  by_cases h1 : n < 192
  · rw [if_pos (by omega), if_pos (by omega), if_pos h1]
    simp only [Option.bind_some]
    rw [wu8_nat, Nat.mod_eq_of_lt (by omega), byteV_lt (by omega)]
    exact rest [UInt8.ofNat n] _ (by rw [bytesV_append]; rfl) (by simp)
  · rw [if_neg (by omega), if_neg h1]
    by_cases h2 : n < 16320
    · rw [if_pos (by omega), if_pos (by omega), if_pos h2]
      simp only [Option.bind_some]
      have e2 : w64 ((n : Int) - 192) = ((n - 192 : Nat) : Int) := by rw [w64_in (by omega) (by omega)]; omega
      have e3 : wu8 (wu8 (wordShr .i64 ((n - 192 : Nat) : Int) 8) + 192) = (((n - 192) / 256 + 192 : Nat) : Int) := by
        rw [show (8 : Int) = ((8 : Nat) : Int) from rfl, wordShr_any _ _ (by simp only [IntKind.bits]; omega), wu8_nat, Nat.mod_eq_of_lt (by omega)]
        rw [show (((n - 192) / 2 ^ 8 : Nat) : Int) + 192 = (((n - 192) / 256 + 192 : Nat) : Int) by omega, wu8_nat, Nat.mod_eq_of_lt (by omega)]
      rw [e2, e3, wu8_nat, byteV_lt (by omega), byteV_of]
      exact rest [UInt8.ofNat ((n - 192) / 256 + 192), UInt8.ofNat (n - 192)] _ (by rw [bytesV_append]; rfl) (by simp)
    · rw [if_neg (by omega), if_pos (by omega), if_neg h2, show bytesV b ++ [V.int .u8 255] = bytesV (b ++ [255]) from (bytesV_append _ [255]).symm, wu64_nat, Nat.mod_eq_of_lt (by omega)]
      have e := cur_put_eq (b ++ [255]) n 4 (by omega) (by omega) (by omega) (by simp; omega)
      rw [show ((4 : Nat) : Int) = 4 from rfl] at e
      rw [e]
      simp only [Option.bind_some]
      exact rest ([255] ++ beN 4 n) _ (by rw [List.append_assoc]) (by simp [beN_length])

theorem subs_get {l : List SubM} {i : Nat} {s : SubM} (h : l[i]? = some s) : (subsV l)[i]? = some s.v := by simp [subsV, h]
theorem subsB_take {l : List SubM} {i : Nat} {s : SubM} (h : l[i]? = some s) : subsB (l.take (i + 1)) = subsB (l.take i) ++ s.bytes := by
  rw [List.take_add_one, h, subsB_append]; simp [subsB]
theorem not_ok_eq (s : SubM) : (if decide (s.ty < 0) = false then some (decide (s.ty > 127)) else some true : Option Bool) = some (decide ¬ s.ok) := by
  unfold SubM.ok
  by_cases h1 : s.ty < 0
  · rw [if_neg (by simpa using h1)]; exact congrArg some (decide_eq_true (by omega)).symm
  · rw [if_pos (by simpa using h1)]; exact congrArg some (decide_eq_decide.2 (by omega))
theorem much_eq (a b : Nat) : (if decide ((a : Int) > 40) = false then some (decide ((b : Int) > 4000)) else some true : Option Bool) = some (decide (40 < a ∨ 4000 < b)) := by
  by_cases h1 : 40 < a
  · rw [if_neg (by simp; omega)]; exact congrArg some (decide_eq_true (.inl h1)).symm
  · rw [if_pos (by simp; omega)]; exact congrArg some (decide_eq_decide.2 (by omega))

theorem sub_emit_eq (l : List SubM) (hz : subsZ l ≤ 100000000) : F_subpkt_Emit (subsV l) = some (emR (subEmit l)) := by
  unfold F_subpkt_Emit
  have hl := subsZ_len l
  refine loopO_run (ι := Nat) (fun i => (nilV, 0, bytesV (subsB (l.take i)), subsV l, len (subsV l), (i : Int))) (fun _ => emR (subEmit l)) (fun i => i ≤ l.length ∧ ∀ s ∈ l.take i, s.ok) (fun i => l.length - i) ?_ 0 ⟨Nat.zero_le _, by simp⟩
  rintro i ⟨h1, h2⟩
  dsimp only
  have hb := subsB_length (l.take i)
  have ht : subsZ (l.take i) ≤ subsZ l := by
    have := subsZ_append (l.take i) (l.drop i); rw [List.take_append_drop] at this; omega
  simp only [len, subsV_length, bytesV_length, all_eq, decide_eq_true_eq]
  by_cases h : i < l.length
  · obtain ⟨s, hs⟩ : ∃ s, l[i]? = some s := ⟨l[i], List.getElem?_eq_getElem h⟩
    have hz2 := subsZ_get hs
    rw [if_pos (by omega), if_pos (by omega), Int.toNat_natCast, subs_get hs]
    simp only [Option.bind_some, st_sub]
    rw [not_ok_eq]
    simp only [Option.bind_some, decide_eq_true_eq]
    by_cases ho : s.ok
    · left
      rw [if_neg (by simpa using ho), sub_put_eq _ s ho (by omega)]
      simp only [Option.bind_some]
      refine ⟨i + 1, ?_, ⟨h, fun t ht => ?_⟩, by omega, trivial⟩
      · rw [subsB_take hs, w64_in (by omega) (by omega)]; rfl
      · rw [List.take_add_one, hs] at ht
        rcases List.mem_append.1 ht with ht | ht
        · exact h2 t ht
        · simp at ht; rw [ht]; exact ho
    · right
      rw [if_pos (by simpa using ho)]
      unfold subEmit
      rw [if_pos ⟨s, List.mem_of_getElem? hs, ho⟩]; rfl
  · right
    have : i = l.length := by omega
    subst this
    rw [List.take_length] at h2 ⊢
    rw [if_neg (by omega), much_eq]
    unfold subEmit
    rw [if_neg (fun ⟨s, hs, ho⟩ => ho (h2 s hs))]
    by_cases hm : 40 < l.length ∨ 4000 < (subsB l).length
    · rw [if_pos hm, decide_eq_true hm]; rfl
    · rw [if_neg hm, decide_eq_false hm]; rfl

theorem head21 {X : Type} (f : ((List V) × Int) ⊕ (((List V) × Int) ⊕ X) → Option (((List V) × Int) ⊕ X)) (hf : ∀ a b, f (.inl (a, b)) = some (.inl (a, b))) (out : List UInt8) (n : Nat) (hn : n ≤ 1000000001) (ho : out.length ≤ 1000000000) :
    (if (n : Int) < 192 then if List.length (bytesV out) + 1 ≤ 2147483648 then some (.inl (bytesV out ++ [V.int .u8 (wu8 n)], (n : Int))) else none
      else (if (n : Int) < 16320 then if List.length (bytesV out) + 2 ≤ 2147483648 then some (.inl (bytesV out ++ [V.int .u8 (wu8 (w64 (w64 (Int.tdiv (w64 ((n : Int) - 192)) 256) + 192))), V.int .u8 (wu8 (w64 ((n : Int) - 192)))], (n : Int))) else none
        else if List.length (bytesV out) + List.length (bytesV ([255] ++ beN 4 n)) ≤ 2147483648 then some (.inl (bytesV out ++ bytesV ([255] ++ beN 4 n), (n : Int))) else none : Option (((List V) × Int) ⊕ (((List V) × Int) ⊕ X))).bind f : Option (((List V) × Int) ⊕ X)) = some (.inl (bytesV (out ++ subHead n), (n : Int))) := by
  unfold subHead
  simp only [bytesV_length]
  by_cases h1 : n < 192
  · rw [if_pos (by omega), if_pos (by omega), if_pos h1, wu8_nat, Nat.mod_eq_of_lt (by omega), byteV_lt (by omega), bytesV_append]; rfl
  · rw [if_neg (by omega), if_neg h1]
    by_cases h2 : n < 16320
    · rw [if_pos (by omega), if_pos (by omega), if_pos h2]
      have e2 : w64 ((n : Int) - 192) = ((n - 192 : Nat) : Int) := by rw [w64_in (by omega) (by omega)]; omega
      have e3 : wu8 (w64 (w64 (Int.tdiv ((n - 192 : Nat) : Int) 256) + 192)) = (((n - 192) / 256 + 192 : Nat) : Int) := by
        rw [show (256 : Int) = ((256 : Nat) : Int) from rfl, i64_tdiv, w64_nat (by omega), show (((n - 192) / 256 : Nat) : Int) + 192 = (((n - 192) / 256 + 192 : Nat) : Int) by omega, w64_nat (by omega), wu8_nat, Nat.mod_eq_of_lt (by omega)]
      rw [e2, e3, wu8_nat, byteV_lt (by omega), byteV_of, bytesV_append]; exact hf _ _
    · rw [if_neg (by omega), if_neg h2]
      simp only [Option.bind_some, bytesV_length, List.length_append, beN_length, List.length_cons, List.length_nil]
      rw [if_pos (by omega), ← bytesV_append out]; exact hf _ _

theorem len_subsV (l : List SubM) : len (subsV l) = (l.length : Int) := by simp [len]
theorem r21_emit_eq (l : List SubM) (hz : subsZ l ≤ 100000000) : F_affiantref21_Emit (subsV l) = some (emR (subEmit l)) := by
  unfold F_affiantref21_Emit
  have hl := subsZ_len l
  refine loopO_run (ι := Nat) (fun i => (subsV l, nilV, 0, bytesV (subsB (l.take i)), (i : Int))) (fun _ => emR (subEmit l)) (fun i => i ≤ l.length ∧ ∀ s ∈ l.take i, s.ok) (fun i => l.length - i) ?_ 0 ⟨Nat.zero_le _, by simp⟩
  rintro i ⟨h1, h2⟩
  dsimp only
  have hb := subsB_length (l.take i)
  have ht : subsZ (l.take i) ≤ subsZ l := by
    have := subsZ_append (l.take i) (l.drop i); rw [List.take_append_drop] at this; omega
  simp only [len_subsV, len_bytesV, all_id]
  have h0 : (0 : Int) ≤ (i : Int) := by omega
  by_cases h : i < l.length
  · obtain ⟨s, hs⟩ : ∃ s, l[i]? = some s := ⟨l[i], List.getElem?_eq_getElem h⟩
    have hz2 := subsZ_get hs
    rw [if_pos (by simp; omega)]
    simp only [if_pos h0, Int.toNat_natCast, subs_get hs, Option.bind_some, st_sub, len_bytesV]
    rw [not_ok_eq]
    simp only [Option.bind_some, decide_eq_true_eq]
    by_cases ho : s.ok
    · left
      rw [if_neg (by simpa using ho)]
      have e1 : w64 ((s.body.length : Int) + 1) = ((s.body.length + 1 : Nat) : Int) := by rw [w64_in (by omega) (by omega)]; omega
      have e4 : F_affiantref01_Put ([V.int .u8 255], wu64 ((s.body.length + 1 : Nat) : Int), 4) = some (bytesV ([255] ++ beN 4 (s.body.length + 1)), 0) := by
        rw [wu64_nat, Nat.mod_eq_of_lt (by omega)]; exact r01_put4 [255] (s.body.length + 1) (by omega) (by simp)
      simp only [e1, e4, Option.bind_some]
      have hk := kind_byte2 ho
      have hk2 : s.ty.toNat + (if s.crit then 128 else 0) < 256 := by obtain ⟨h1, h2⟩ := ho; split <;> omega
      refine ⟨i + 1, ?_, ⟨h, fun t ht => ?_⟩, by omega, trivial⟩
      · refine bind_to (head21 _ (fun _ _ => rfl) (subsB (l.take i)) (s.body.length + 1) (by omega) (by omega)) ?_
        simp only [Option.bind_some]
        have hc : ∀ X : Type, (if s.crit = true then some (.inl (wu8 (wu8 s.ty + 128))) else some (.inl (wu8 s.ty)) : Option (Int ⊕ X)) = some (.inl ((s.ty.toNat + (if s.crit then 128 else 0) : Nat) : Int)) := by
          intro X; rw [← hk]; cases s.crit <;> rfl
        rw [hc]
        have hh := subHead_length (s.body.length + 1)
        simp only [Option.bind_some, List.length_append, List.length_cons, List.length_nil, bytesV_length]
        rw [if_pos (by omega), if_pos (by omega), byteV_lt hk2, subsB_take hs, w64_in (by omega) (by omega)]
        simp only [SubM.bytes, bytesV_append, bytesV_cons, bytesV_nil, List.append_assoc]
        rfl
      · rw [List.take_add_one, hs] at ht
        rcases List.mem_append.1 ht with ht | ht
        · exact h2 t ht
        · simp at ht; rw [ht]; exact ho
    · right
      rw [if_pos (by simpa using ho)]
      unfold subEmit
      rw [if_pos ⟨s, List.mem_of_getElem? hs, ho⟩]; rfl
  · right
    have : i = l.length := by omega
    subst this
    rw [List.take_length] at h2 ⊢
    rw [if_neg (by simp)]
    rw [much_eq]
    unfold subEmit
    rw [if_neg (fun ⟨s, hs, ho⟩ => ho (h2 s hs))]
    by_cases hm : 40 < l.length ∨ 4000 < (subsB l).length
    · rw [if_pos hm, decide_eq_true hm]; rfl
    · rw [if_neg hm, decide_eq_false hm]; rfl

/-- How much the bodies hold. -/
def bodyZ (l : List SubM) : Nat := (l.map fun s => s.body.length).sum
theorem bodyZ_append (l m : List SubM) : bodyZ (l ++ m) = bodyZ l + bodyZ m := by simp [bodyZ]
theorem subsZ_body (l : List SubM) : subsZ l = bodyZ l + 6 * l.length := by
  induction l with
  | nil => rfl
  | cons s l ih => simp only [subsZ, bodyZ, List.map_cons, List.sum_cons, List.length_cons] at ih ⊢; omega
theorem bodyZ_take {l : List SubM} {i : Nat} {s : SubM} (h : l[i]? = some s) : bodyZ (l.take (i + 1)) = bodyZ (l.take i) + s.body.length := by
  rw [List.take_add_one, h, bodyZ_append]; simp [bodyZ]
theorem bodyZ_le (l : List SubM) (i : Nat) : bodyZ (l.take i) ≤ bodyZ l := by
  have := bodyZ_append (l.take i) (l.drop i); rw [List.take_append_drop] at this; omega
theorem sub_small_eq (l : List SubM) (hs : ∀ s ∈ l, s.body.length ≤ 1000000000000000) (hl : l.length ≤ 1000000000000000) : F_affiantref21_Small (subsV l) = some (decide (l.length ≤ 60 ∧ bodyZ l ≤ 5000)) := by
  unfold F_affiantref21_Small
  refine loopO_run (ι := Nat) (fun i => (subsV l, false, ((bodyZ (l.take i) : Nat) : Int), (i : Int))) (fun _ => decide (l.length ≤ 60 ∧ bodyZ l ≤ 5000)) (fun i => i ≤ l.length ∧ i ≤ 60 ∧ bodyZ (l.take i) ≤ 5000) (fun i => l.length - i) ?_ 0 ⟨Nat.zero_le _, by omega, by simp [bodyZ]⟩
  rintro i ⟨h1, h2, h3⟩
  dsimp only
  simp only [len, subsV_length, decide_eq_true_eq]
  by_cases h : i < l.length
  · obtain ⟨s, hi⟩ : ∃ s, l[i]? = some s := ⟨l[i], List.getElem?_eq_getElem h⟩
    have hb := hs s (List.mem_of_getElem? hi)
    have ht := bodyZ_take hi
    have hle := bodyZ_le l (i + 1)
    rw [if_pos (by omega), if_pos (by omega), Int.toNat_natCast, subs_get hi]
    simp only [Option.bind_some, st_sub, bytesV_length]
    rw [w64_in (n := ((bodyZ (l.take i) : Nat) : Int) + (s.body.length : Int)) (by omega) (by omega), w64_in (n := (i : Int) + 1) (by omega) (by omega)]
    have hc : (if ((i : Int) == 60) = false then some (decide (((bodyZ (l.take i) : Nat) : Int) + (s.body.length : Int) > 5000)) else some true : Option Bool) = some (decide (i = 60 ∨ 5000 < bodyZ (l.take (i + 1)))) := by
      by_cases h6 : i = 60
      · rw [if_neg (by simp [h6])]; exact congrArg some (decide_eq_true (.inl h6)).symm
      · rw [if_pos (by simp; omega)]; exact congrArg some (decide_eq_decide.2 (by omega))
    rw [hc]
    simp only [Option.bind_some, decide_eq_true_eq]
    by_cases hm : i = 60 ∨ 5000 < bodyZ (l.take (i + 1))
    · right
      rw [if_pos hm]
      exact congrArg (fun x => some (Sum.inr x)) (decide_eq_false (by omega)).symm
    · left
      rw [if_neg hm]
      refine ⟨i + 1, ?_, ⟨h, by omega, by omega⟩, by omega, trivial⟩
      rw [ht]; rfl
  · right
    rw [if_neg (by omega)]
    rw [List.take_of_length_le (by omega)] at h3
    exact congrArg (fun x => some (Sum.inr x)) (decide_eq_true (show l.length ≤ 60 ∧ bodyZ l ≤ 5000 by omega)).symm
end Go.Proofs.YtffofdfikmpanaaGreat.A

namespace Go.Proofs.YtffofdfikmpanaaGreat.A
set_option linter.unusedVariables false
set_option linter.unusedSimpArgs false
set_option maxRecDepth 10000

/-- Words of two digits. -/
def pairs : List Nat → List Nat
  | [] => []
  | [a] => [a]
  | a :: b :: r => (a + 65536 * b) :: pairs r
theorem pairs_append : ∀ {l m : List Nat}, l.length % 2 = 0 → pairs (l ++ m) = pairs l ++ pairs m
  | [], m, _ => rfl
  | [a], m, h => by simp at h
  | a :: b :: r, m, h => by
    simp only [List.cons_append, pairs]
    rw [pairs_append (by simp only [List.length_cons] at h; omega)]
theorem pairs_isW : ∀ {l : List Nat}, isD l → isW (pairs l)
  | [], _ => by intro d hd; simp [pairs] at hd
  | [a], h => by
    intro d hd
    simp [pairs] at hd
    have := h a (by simp)
    have h2 : a < 65536 := this
    show d < 4294967296
    omega
  | a :: b :: r, h => by
    intro d hd
    have h1 : a < 65536 := h a (by simp)
    have h2 : b < 65536 := h b (by simp)
    simp only [pairs, List.mem_cons] at hd
    rcases hd with rfl | hd
    · show a + 65536 * b < 4294967296; omega
    · exact pairs_isW (fun x hx => h x (by simp [hx])) d hd
theorem val_pairs : ∀ l : List Nat, val W32 (pairs l) = val B16 l
  | [] => rfl
  | [a] => rfl
  | a :: b :: r => by
    have := val_pairs r
    simp only [pairs, val] at this ⊢
    rw [this]
    show a + 65536 * b + 4294967296 * val 65536 r = a + 65536 * (b + 65536 * val 65536 r)
    omega
theorem pairs_length : ∀ l : List Nat, (pairs l).length ≤ l.length
  | [] => Nat.le_refl _
  | [a] => Nat.le_refl _
  | a :: b :: r => by have := pairs_length r; simp only [pairs, List.length_cons]; omega

theorem r04_whole_eq (d : List Nat) (hd : isD d) (hn : d.length ≤ 1000000) : F_affiantref04_Whole (numV .u64 d) = some (numV .u32 (pairs (dig B16 (val B16 d)))) := by
  unfold F_affiantref04_Whole
  rw [r04_trim_eq d hd (by omega)]
  simp only [Option.bind_some, decide_eq_true_eq]
  have hlen : (dig B16 (val B16 d)).length ≤ d.length := dig_length_le (by decide) (val_lt hd)
  have hl : isD (dig B16 (val B16 d)) := isD_dig _
  generalize dig B16 (val B16 d) = l at hlen hl
  refine loopO_run (ι := Nat) (fun k => (numV .u64 l, numV .u32 (pairs (l.take (2 * k))), ((2 * k : Nat) : Int))) (fun _ => numV .u32 (pairs l)) (fun k => 2 * k ≤ l.length + 1) (fun k => l.length - 2 * k) ?_ 0 (by omega)
  intro k hk
  dsimp only
  have hp := pairs_length (l.take (2 * k))
  rw [List.length_take] at hp
  rw [len_numV]
  by_cases h : 2 * k < l.length
  · left
    refine ⟨k + 1, ?_, by omega, by omega, rfl⟩
    rw [if_pos (by omega), if_pos (by omega), Int.toNat_natCast, numV_getD h]
    simp only [Option.bind_some, int?_int, all_id, numV_length]
    have e1 : w64 (((2 * k : Nat) : Int) + 1) = ((2 * k + 1 : Nat) : Int) := by rw [w64_in (by omega) (by omega)]; omega
    have e2 : w64 (((2 * k : Nat) : Int) + 2) = ((2 * (k + 1) : Nat) : Int) := by rw [w64_in (by omega) (by omega)]; omega
    simp only [e1, Int.toNat_natCast]
    have hx : l.getD (2 * k) 0 < 65536 := hl.getD _
    have hy : l.getD (2 * k + 1) 0 < 65536 := hl.getD _
    have hev : (l.take (2 * k)).length % 2 = 0 := by rw [List.length_take]; omega
    by_cases h2 : 2 * k + 1 < l.length
    · rw [if_pos (by omega), if_pos (by omega), numV_getD h2]
      simp only [Option.bind_some, int?_int]
      rw [if_pos (by omega), show (65536 : Int) = ((65536 : Nat) : Int) from rfl]
      have e3 : wu64 (((l.getD (2 * k + 1) 0 : Nat) : Int) * ((65536 : Nat) : Int)) = ((65536 * l.getD (2 * k + 1) 0 : Nat) : Int) := by
        rw [show ((l.getD (2 * k + 1) 0 : Nat) : Int) * ((65536 : Nat) : Int) = ((65536 * l.getD (2 * k + 1) 0 : Nat) : Int) by omega, wu64_nat, Nat.mod_eq_of_lt (by omega)]
      have e4 : wu64 (((l.getD (2 * k) 0 : Nat) : Int) + ((65536 * l.getD (2 * k + 1) 0 : Nat) : Int)) = ((l.getD (2 * k) 0 + 65536 * l.getD (2 * k + 1) 0 : Nat) : Int) := by
        rw [show ((l.getD (2 * k) 0 : Nat) : Int) + ((65536 * l.getD (2 * k + 1) 0 : Nat) : Int) = ((l.getD (2 * k) 0 + 65536 * l.getD (2 * k + 1) 0 : Nat) : Int) by omega, wu64_nat, Nat.mod_eq_of_lt (by omega)]
      rw [e3, e4, wu32_nat, Nat.mod_eq_of_lt (by omega)]
      have ht : l.take (2 * (k + 1)) = l.take (2 * k) ++ [l.getD (2 * k) 0, l.getD (2 * k + 1) 0] := by
        rw [show 2 * (k + 1) = 2 * k + 1 + 1 by omega, take_snoc h2, take_snoc h, List.append_assoc]; rfl
      rw [ht, pairs_append hev, numV_append, e2]
      rfl
    · rw [if_neg (by omega)]
      simp only [Option.bind_some]
      rw [if_pos (by omega), wu32_nat, Nat.mod_eq_of_lt (by omega)]
      have ht : l.take (2 * (k + 1)) = l.take (2 * k) ++ [l.getD (2 * k) 0] := by
        rw [List.take_of_length_le (by omega), ← take_snoc h, List.take_of_length_le (by omega)]
      rw [ht, pairs_append hev, numV_append, e2]
      rfl
  · right
    rw [if_neg (by omega), all_id, List.take_of_length_le (by omega)]

/-- So many digits of a number. -/
def digN (B n v : Nat) : List Nat := (List.range n).map fun q => v / B ^ q % B
theorem digN_length (B n v : Nat) : (digN B n v).length = n := by simp [digN]
theorem digN_get {B n v q : Nat} (h : q < n) : (digN B n v).getD q 0 = v / B ^ q % B := by
  rw [List.getD_eq_getElem?_getD]; simp [digN, h]
theorem digN_set {B n v v' q : Nat} (h : q < n) (h1 : ∀ j, j ≠ q → v' / B ^ j % B = v / B ^ j % B) : (digN B n v).set q (v' / B ^ q % B) = digN B n v' := by
  apply List.ext_getElem?
  intro j
  rw [List.getElem?_set]
  by_cases hj : q = j
  · subst hj
    simp [digN, h]
  · rw [if_neg hj]
    simp only [digN, List.getElem?_map]
    by_cases hn : j < n
    · simp only [List.getElem?_range hn, Option.map_some]
      rw [h1 j fun h => hj h.symm]
    · rw [List.getElem?_eq_none (by simp; omega)]; rfl

theorem low_add {v x i : Nat} (hv : v < 256 ^ i) (hx : x < 256) :
    (v + x * 256 ^ i) / B16 ^ (i / 2) % B16 = v / B16 ^ (i / 2) % B16 + x * 256 ^ (i % 2) ∧ v / B16 ^ (i / 2) % B16 + x * 256 ^ (i % 2) < 65536 ∧ ∀ j, j ≠ i / 2 → (v + x * 256 ^ i) / B16 ^ j % B16 = v / B16 ^ j % B16 := by
  have hp : 256 ^ i = B16 ^ (i / 2) * 256 ^ (i % 2) := by
    conv => lhs; rw [← Nat.div_add_mod i 2]
    rw [Nat.pow_add, Nat.pow_mul]
  have hq : v / B16 ^ (i / 2) < 256 ^ (i % 2) := by
    rw [Nat.div_lt_iff_lt_mul (Nat.pow_pos (by decide)), Nat.mul_comm, ← hp]; exact hv
  have hb : v / B16 ^ (i / 2) + x * 256 ^ (i % 2) < 65536 := by
    generalize v / B16 ^ (i / 2) = a at hq ⊢
    rcases Nat.mod_two_eq_zero_or_one i with h | h <;> rw [h] at hq ⊢ <;> simp only [Nat.pow_zero, Nat.pow_one] at hq ⊢ <;> omega
  have hm : v / B16 ^ (i / 2) % B16 = v / B16 ^ (i / 2) := Nat.mod_eq_of_lt (show _ < 65536 by omega)
  refine ⟨?_, by rw [hm]; exact hb, fun j hj => ?_⟩
  · have h1 : (v + x * 256 ^ i) / B16 ^ (i / 2) = v / B16 ^ (i / 2) + x * 256 ^ (i % 2) := by
      rw [hp, show v + x * (B16 ^ (i / 2) * 256 ^ (i % 2)) = v + B16 ^ (i / 2) * (x * 256 ^ (i % 2)) by rw [Nat.mul_left_comm], Nat.add_mul_div_left _ _ (Nat.pow_pos (by decide))]
    rw [h1, hm]; exact Nat.mod_eq_of_lt hb
  · rcases Nat.lt_or_gt_of_ne hj with h | h
    · have h1 : 256 ^ i = B16 ^ j * (B16 * (B16 ^ (i / 2 - j - 1) * 256 ^ (i % 2))) := by
        rw [hp, ← Nat.mul_assoc, ← Nat.mul_assoc, ← Nat.pow_succ, ← Nat.pow_add, show j.succ + (i / 2 - j - 1) = i / 2 by omega]
      rw [h1, show v + x * (B16 ^ j * (B16 * (B16 ^ (i / 2 - j - 1) * 256 ^ (i % 2)))) = v + B16 ^ j * (B16 * (x * (B16 ^ (i / 2 - j - 1) * 256 ^ (i % 2)))) by
        rw [Nat.mul_left_comm x, Nat.mul_left_comm x], Nat.add_mul_div_left _ _ (Nat.pow_pos (by decide)), Nat.add_mul_mod_self_left]
    · have h1 : (v + x * 256 ^ i) < B16 ^ j := by
        have h2 : v + x * 256 ^ i < 256 ^ (i + 1) := by rw [Nat.pow_succ]; have : x * 256 ^ i ≤ 255 * 256 ^ i := Nat.mul_le_mul_right _ (by omega); omega
        have h3 : 256 ^ (i + 1) ≤ B16 ^ j := by
          rw [show B16 = 256 ^ 2 by decide, ← Nat.pow_mul]
          exact Nat.pow_le_pow_right (by decide) (by omega)
        omega
      rw [Nat.div_eq_of_lt h1, Nat.div_eq_of_lt (by omega)]

theorem beval_drop {b : List UInt8} {i : Nat} (h : i < b.length) : beval (b.drop (b.length - (i + 1))) = (b.getD (b.length - 1 - i) 0).toNat * 256 ^ i + beval (b.drop (b.length - i)) := by
  have h1 : b.drop (b.length - (i + 1)) = b.getD (b.length - 1 - i) 0 :: b.drop (b.length - i) := by
    rw [List.drop_eq_getElem_cons (by omega), List.getD_eq_getElem?_getD, List.getElem?_eq_getElem (by omega), show b.length - (i + 1) + 1 = b.length - i by omega]
    simp only [Option.getD_some, List.cons.injEq, and_true]
    congr 1
    omega
  rw [h1, beval_cons, List.length_drop, show b.length - (b.length - i) = i by omega]

theorem r04_read_eq (b : List UInt8) (hn : b.length ≤ 100000) : ∃ l, isW l ∧ val W32 l = beval b ∧ l.length ≤ 100000 ∧ F_affiantref04_Read (bytesV b) = some (numV .u32 l) := by
  refine ⟨pairs (dig B16 (beval b)), pairs_isW (isD_dig _), by rw [val_pairs, val_dig (by decide)], ?_, ?_⟩
  · refine Nat.le_trans (pairs_length _) (Nat.le_trans (dig_length_le (k := b.length) (by decide) (Nat.lt_of_lt_of_le (beval_lt b) (Nat.pow_le_pow_left (by decide) _))) hn)
  unfold F_affiantref04_Read
  have e0 : w64 (w64 (Int.tdiv (len (bytesV b)) 2) + 1) = ((b.length / 2 + 1 : Nat) : Int) := by
    rw [len_bytesV, show (2 : Int) = ((2 : Nat) : Int) from rfl, i64_tdiv, w64_nat (by omega), w64_in (by omega) (by omega)]; omega
  simp only [decide_eq_true_eq, beq_iff_eq, e0]
  rw [if_pos (by omega)]
  have hz : rep (Int.toNat ((b.length / 2 + 1 : Nat) : Int)) (V.int .u64 0) = numV .u64 (digN B16 (b.length / 2 + 1) 0) := by
    have : digN B16 (b.length / 2 + 1) 0 = List.replicate (b.length / 2 + 1) 0 := by
      simp only [digN, Nat.zero_div, Nat.zero_mod]
      apply List.ext_getElem?
      intro j
      simp only [List.getElem?_map, List.getElem?_replicate]
      by_cases hj : j < b.length / 2 + 1
      · rw [List.getElem?_range hj, if_pos hj]; rfl
      · rw [if_neg hj, List.getElem?_eq_none (by simp; omega)]; rfl
    rw [this, numV_replicate, Int.toNat_natCast]; rfl
  rw [hz]
  refine (congrArg (loopO _) ?_).trans (loopO_run (ι := Nat) (fun i => (bytesV b, numV .u64 (digN B16 (b.length / 2 + 1) (beval (b.drop (b.length - i)))), (i : Int))) (fun _ => numV .u32 (pairs (dig B16 (beval b)))) (fun i => i ≤ b.length) (fun i => b.length - i) ?_ 0 (Nat.zero_le _))
  · simp [beval_nil]
  intro i hi
  dsimp only
  rw [len_bytesV]
  by_cases h : i < b.length
  · left
    refine ⟨i + 1, ?_, h, by omega, rfl⟩
    have e1 : w64 (w64 ((b.length : Int) - 1) - (i : Int)) = ((b.length - 1 - i : Nat) : Int) := by rw [w64_in (n := (b.length : Int) - 1) (by omega) (by omega), w64_in (by omega) (by omega)]; omega
    have e2 : w64 (Int.tdiv (i : Int) 2) = ((i / 2 : Nat) : Int) := by rw [show (2 : Int) = ((2 : Nat) : Int) from rfl, i64_tdiv, w64_nat (by omega)]
    rw [if_pos (by omega), e1, if_pos (by omega), Int.toNat_natCast, bytesV_getD (by omega), e2]
    generalize hx : b.getD (b.length - 1 - i) 0 = x
    have hx2 : x.toNat < 256 := x.toNat_lt
    simp only [Option.bind_some, byteV, int?_int]
    have hc : ∀ X : Type, (if Int.tmod (i : Int) 2 = 1 then some (.inl (wu64 (wu64 (x.toNat : Int) * 256))) else some (.inl (wu64 (x.toNat : Int))) : Option (Int ⊕ X)) = some (.inl ((x.toNat * 256 ^ (i % 2) : Nat) : Int)) := by
      intro X
      rw [show (2 : Int) = ((2 : Nat) : Int) from rfl, i64_tmod, wu64_nat, Nat.mod_eq_of_lt (a := x.toNat) (by omega)]
      rcases Nat.mod_two_eq_zero_or_one i with h2 | h2
      · rw [if_neg (by omega), h2, Nat.pow_zero, Nat.mul_one]
      · rw [if_pos (by omega), h2, Nat.pow_one, show (x.toNat : Int) * 256 = ((x.toNat * 256 : Nat) : Int) by omega, wu64_nat, Nat.mod_eq_of_lt (by omega)]
    rw [hc]
    have hv := beval_lt (b.drop (b.length - i))
    rw [List.length_drop, show b.length - (b.length - i) = i by omega] at hv
    obtain ⟨q1, q2, q3⟩ := low_add hv hx2
    simp only [Option.bind_some, len_numV, digN_length, Int.toNat_natCast, Nat.zero_add]
    rw [if_pos (by omega), numV_getD (by rw [digN_length]; omega)]
    simp only [Option.bind_some, cells_int, List.getElem?_cons_zero, int?_int]
    rw [if_pos (by omega)]
    simp only [storeEl_int]
    rw [digN_get (by omega)]
    generalize hv0 : beval (b.drop (b.length - i)) = v at hv q1 q2 q3
    rw [show ((v / B16 ^ (i / 2) % B16 : Nat) : Int) + ((x.toNat * 256 ^ (i % 2) : Nat) : Int) = ((v / B16 ^ (i / 2) % B16 + x.toNat * 256 ^ (i % 2) : Nat) : Int) by omega, wu64_nat, Nat.mod_eq_of_lt (by omega), numV_set, ← q1, digN_set (by omega) q3, w64_in (by omega) (by omega), beval_drop h, hx, hv0, Nat.add_comm v]
    rfl
  · right
    have : i = b.length := by omega
    subst this
    have hv := beval_lt b
    rw [if_neg (by omega), all_id, Nat.sub_self, List.drop_zero, r04_whole_eq _ (fun d hd => by
      simp only [digN, List.mem_map] at hd
      obtain ⟨q, _, rfl⟩ := hd
      exact Nat.mod_lt _ (by decide)) (by rw [digN_length]; omega)]
    simp only [Option.bind_some, digN, val_words]
    rw [Nat.mod_eq_of_lt]
    refine Nat.lt_of_lt_of_le hv ?_
    rw [show B16 = 256 ^ 2 by decide, ← Nat.pow_mul]
    exact Nat.pow_le_pow_right (by decide) (by omega)
end Go.Proofs.YtffofdfikmpanaaGreat.A

namespace Go.Proofs.YtffofdfikmpanaaGreat.A
set_option linter.unusedVariables false
set_option linter.unusedSimpArgs false
set_option maxRecDepth 10000

/-- A signature. -/
structure SigM where
  ver : Int
  ty : Int
  pub : Int
  hash : Int
  hs : List SubM
  us : List SubM
  l0 : Int
  l1 : Int
  salt : List UInt8
  value : List UInt8
def SigM.tup (s : SigM) : Int × Int × Int × Int × List V × List V × Int × Int × List V × List V := (s.ver, s.ty, s.pub, s.hash, subsV s.hs, subsV s.us, s.l0, s.l1, bytesV s.salt, bytesV s.value)
/-- Such as may be asked about. -/
structure SigM.Ok (s : SigM) : Prop where
  hz : subsZ s.hs ≤ 6000
  uz : subsZ s.us ≤ 6000
  sz : s.salt.length ≤ 100
  vz : s.value.length ≤ 2100

def hsize (a : Int) : Int := if a = 2 then 20 else if a = 11 then 28 else if a = 8 then 32 else if a = 9 then 48 else if a = 10 then 64 else 0
def isWeak (a : Int) : Prop := a = 2 ∨ hsize a = 0
instance (a : Int) : Decidable (isWeak a) := by unfold isWeak; infer_instance
def saltSize (a : Int) : Int := if a = 11 ∨ a = 8 then 16 else if a = 9 then 24 else if a = 10 then 32 else 0
def SigM.valueOk (s : SigM) : Prop := if s.pub = 27 then s.value.length = 64 else (s.value = [] ∨ s.value.getD 0 0 ≠ 0) ∧ bitlen (beval s.value) ≤ 16384
instance (s : SigM) : Decidable s.valueOk := by unfold SigM.valueOk; infer_instance
def SigM.saltOk (s : SigM) : Prop := if s.ver = 4 then s.salt = [] else (s.salt.length : Int) = saltSize s.hash
instance (s : SigM) : Decidable s.saltOk := by unfold SigM.saltOk; infer_instance
def SigM.may (s : SigM) : Prop := (s.ver = 4 ∨ s.ver = 6) ∧ (0 ≤ s.ty ∧ s.ty ≤ 255) ∧ (s.pub = 1 ∨ s.pub = 27) ∧ (hsize s.hash > 0 ∧ ¬ (s.ver = 6 ∧ isWeak s.hash)) ∧ s.saltOk ∧ s.valueOk
instance (s : SigM) : Decidable s.may := by unfold SigM.may; infer_instance

theorem hash_size_eq (a : Int) : F_hash_Size a = some (hsize a) := by
  unfold F_hash_Size hsize
  simp only [beq_iff_eq]
  repeat' split
  all_goals rfl
theorem r09_size_eq (a : Int) : F_affiantref09_Size a = some (hsize a) := by
  unfold F_affiantref09_Size hsize
  simp only [beq_iff_eq]
  repeat' split
  all_goals first | rfl | (exfalso; omega)
theorem hsize_pos (a : Int) : 0 ≤ hsize a := by
  unfold hsize
  repeat' split
  all_goals omega
theorem hash_weak_eq (a : Int) : F_hash_Weak a = some (decide (isWeak a)) := by
  unfold F_hash_Weak isWeak
  by_cases h : a = 2
  · rw [if_neg (by simp [h])]; exact congrArg some (decide_eq_true (.inl h)).symm
  · rw [if_pos (by simp [h]), hash_size_eq]
    exact congrArg some (decide_eq_decide.2 (by simp [h]))
theorem r09_weak_eq (a : Int) : F_affiantref09_Weak a = some (decide (isWeak a)) := by
  unfold F_affiantref09_Weak isWeak
  by_cases h : a = 2
  · rw [if_neg (by simp [h])]; exact congrArg some (decide_eq_true (.inl h)).symm
  · rw [if_pos (by simp [h]), r09_size_eq]
    exact congrArg some (decide_eq_decide.2 (by simp [h]))
theorem sig_salt_eq (a : Int) : F_sig_SaltSize a = some (saltSize a) := by
  unfold F_sig_SaltSize saltSize
  by_cases h : a = 11
  · subst h; rfl
  · rw [if_neg (by simpa using h)]
    simp only [Option.bind_some, beq_iff_eq]
    by_cases h8 : a = 8
    · subst h8; rfl
    · rw [if_neg h8]
      repeat' split
      all_goals first | rfl | (exfalso; omega)
theorem r22_salt_eq (a : Int) : F_affiantref22_SaltSize a = some (saltSize a) := by
  unfold F_affiantref22_SaltSize saltSize
  by_cases h : a = 11
  · subst h; rfl
  · rw [if_neg (by simpa using h)]
    simp only [Option.bind_some, beq_iff_eq]
    by_cases h8 : a = 8
    · subst h8; rfl
    · rw [if_neg h8]
      repeat' split
      all_goals first | rfl | (exfalso; omega)
theorem sig_width_eq (a : Int) : F_sig_width a = some (if a = 6 then 4 else 2) := by
  unfold F_sig_width; simp only [beq_iff_eq]; split <;> rfl
theorem r22_width_eq (a : Int) : F_affiantref22_width a = some (if a = 6 then 4 else 2) := by
  unfold F_affiantref22_width; simp only [beq_iff_eq]; split <;> rfl

theorem be_canon (b : List UInt8) : be (beval b) = b ↔ (b = [] ∨ b.getD 0 0 ≠ 0) := by
  cases b with
  | nil => simp [beval_nil]; rfl
  | cons c t =>
    simp only [List.getD_cons_zero, reduceCtorEq, false_or]
    have ht := beval_lt t
    have hc := c.toNat_lt
    constructor
    · intro h hz
      subst hz
      have hl := congrArg List.length h
      rw [be_length, beval_cons] at hl
      simp only [UInt8.toNat_zero, Nat.zero_mul, Nat.zero_add, List.length_cons] at hl
      have : bitlen (beval t) ≤ 8 * t.length := bitlen_le.2 (by rw [Nat.pow_mul]; exact ht)
      omega
    · intro h
      have hn : c.toNat ≠ 0 := fun h0 => h (UInt8.toNat_inj.1 h0)
      have h1 : ¬ bitlen (beval (c :: t)) ≤ 8 * t.length := by
        rw [bitlen_le, beval_cons, Nat.pow_mul]
        have : 1 * 256 ^ t.length ≤ c.toNat * 256 ^ t.length := Nat.mul_le_mul_right _ (by omega)
        have h256 : (2 : Nat) ^ 8 = 256 := by decide
        rw [h256]; omega
      have h2 : bitlen (beval (c :: t)) ≤ 8 * (t.length + 1) := by
        rw [bitlen_le, Nat.pow_mul]
        exact beval_lt (c :: t)
      unfold be
      rw [show (bitlen (beval (c :: t)) + 7) / 8 = (c :: t).length by rw [List.length_cons]; omega]
      exact beN_beval _

theorem getD_zero_byte {b : List UInt8} (h : b ≠ []) : (bytesV b)[0]? = some (byteV (b.getD 0 0)) := by
  cases b with
  | nil => exact absurd rfl h
  | cons c t => rfl
theorem len_zero_bytes (b : List UInt8) : (len (bytesV b) == 0) = decide (b = []) := by
  rw [len_bytesV]
  cases b with
  | nil => rfl
  | cons c t =>
    rw [decide_eq_false (by simp)]
    simp only [List.length_cons, beq_eq_false_iff_ne]; omega

theorem sig_value_eq (s : SigM) (h : s.Ok) : F_sig_isValue s.tup = some (decide s.valueOk) := by
  unfold F_sig_isValue SigM.tup SigM.valueOk
  simp only [beq_iff_eq]
  by_cases hp : s.pub = 27
  · rw [if_pos hp]
    refine congrArg some ?_
    rw [len_bytesV]
    have : decide ((s.value.length : Int) = 64) = decide (if s.pub = 27 then s.value.length = 64 else (s.value = [] ∨ s.value.getD 0 0 ≠ 0) ∧ bitlen (beval s.value) ≤ 16384) := decide_eq_decide.2 (by rw [if_pos hp]; omega)
    rw [← this]; rfl
  · have hv := h.vz
    have hw := isW_dig (beval s.value)
    have hl : (dig W32 (beval s.value)).length ≤ s.value.length := dig_length_le (by decide) (Nat.lt_of_lt_of_le (beval_lt s.value) (Nat.pow_le_pow_left (by decide) _))
    rw [if_neg hp, nat_read_eq _ (by omega)]
    simp only [Option.bind_some]
    rw [nat_bytes_eq _ hw (by omega), val_dig (by decide)]
    simp only [Option.bind_some, all_eq]
    rw [bytes_equal_eq]
    simp only [Option.bind_some, beq_iff_eq]
    by_cases hc : be (beval s.value) = s.value
    · rw [if_pos hc, nat_bits_eq _ hw (by omega), val_dig (by decide)]
      refine congrArg some (decide_eq_decide.2 ?_)
      rw [if_neg hp]
      have := (be_canon _).1 hc
      constructor
      · intro h2; exact ⟨this, by omega⟩
      · intro h2; omega
    · rw [if_neg hc]
      refine congrArg some (decide_eq_false ?_).symm
      rw [if_neg hp]
      exact fun h2 => hc ((be_canon _).2 h2.1)
theorem sig_isSalt_eq (s : SigM) (hv : s.ver = 4 ∨ s.ver = 6) : F_sig_isSalt s.tup = some (decide s.saltOk) := by
  unfold F_sig_isSalt SigM.tup SigM.saltOk
  simp only [beq_iff_eq]
  by_cases h4 : s.ver = 4
  · rw [if_pos h4, len_zero_bytes]
    refine congrArg some (decide_eq_decide.2 ?_)
    rw [if_pos h4]
  · rw [if_neg h4, sig_salt_eq]
    refine congrArg some ?_
    rw [len_bytesV]
    exact (beqI _ _).trans (decide_eq_decide.2 (by rw [if_neg h4]))
theorem sig_version_eq (a : Int) : F_sig_isVersion a = some (decide (a = 4 ∨ a = 6)) := by
  unfold F_sig_isVersion
  by_cases h : a = 4
  · subst h; rfl
  · rw [if_pos (by simpa using h)]; exact congrArg some ((beqI _ _).trans (decide_eq_decide.2 (by omega)))
theorem sig_pub_eq (a : Int) : F_sig_isPub a = some (decide (a = 1 ∨ a = 27)) := by
  unfold F_sig_isPub
  by_cases h : a = 1
  · subst h; rfl
  · rw [if_pos (by simpa using h)]; exact congrArg some ((beqI _ _).trans (decide_eq_decide.2 (by omega)))
theorem sig_hash_eq (a v : Int) : F_sig_isHash (a, v) = some (decide (hsize a > 0 ∧ ¬ (v = 6 ∧ isWeak a))) := by
  unfold F_sig_isHash
  simp only [beq_iff_eq]
  rw [hash_size_eq]
  simp only [Option.bind_some, decide_eq_true_eq]
  by_cases h : hsize a > 0
  · rw [if_pos h]
    by_cases h6 : v = 6
    · rw [if_pos h6, hash_weak_eq]
      by_cases hw : isWeak a
      · rw [decide_eq_true hw]; exact congrArg some (decide_eq_false (by simp [h6, hw])).symm
      · rw [decide_eq_false hw]; exact congrArg some (decide_eq_true ⟨h, by simp [h6, hw]⟩).symm
    · rw [if_neg h6]; exact congrArg some (decide_eq_true ⟨h, by simp [h6]⟩).symm
  · rw [if_neg h]; exact congrArg some (decide_eq_false (by simp [h])).symm

theorem sig_may_eq (s : SigM) (h : s.Ok) : F_sig_may s.tup = some (decide s.may) := by
  have e1 := sig_isSalt_eq s
  have e2 := sig_value_eq s h
  unfold SigM.tup at e1 e2
  unfold F_sig_may SigM.tup
  simp only [decide_eq_true_eq, sig_version_eq, sig_pub_eq, Option.bind_some]
  have no : ¬ s.may → (some false : Option Bool) = some (decide s.may) := fun h => by rw [decide_eq_false h]
  by_cases c1 : s.ver = 4 ∨ s.ver = 6
  · rw [if_pos c1]
    by_cases c2 : s.ty ≥ 0
    · rw [if_pos c2]
      by_cases c3 : s.ty ≤ 255
      · rw [if_pos c3]
        by_cases c4 : s.pub = 1 ∨ s.pub = 27
        · rw [if_pos c4, sig_hash_eq]
          simp only [Option.bind_some, decide_eq_true_eq]
          by_cases c5 : hsize s.hash > 0 ∧ ¬ (s.ver = 6 ∧ isWeak s.hash)
          · rw [if_pos c5, e1 c1]
            simp only [Option.bind_some, decide_eq_true_eq]
            by_cases c6 : s.saltOk
            · rw [if_pos c6, e2]
              exact congrArg some (decide_eq_decide.2 ⟨fun c7 => ⟨c1, ⟨c2, c3⟩, c4, c5, c6, c7⟩, fun c => c.2.2.2.2.2⟩)
            · rw [if_neg c6]; exact no fun c => c6 c.2.2.2.2.1
          · rw [if_neg c5]; exact no fun c => c5 c.2.2.2.1
        · rw [if_neg c4]; exact no fun c => c4 c.2.2.1
      · rw [if_neg c3]; exact no fun c => c3 c.2.1.2
    · rw [if_neg c2]; exact no fun c => c2 c.2.1.1
  · rw [if_neg c1]; exact no fun c => c1 c.1

/-! ### The reference's -/

theorem bool22 : ∀ a b c d e f g h k : Bool, (if a = true then
      if b = false then
        if c = false then
          if d = false then
            if e = true then
              if f = false then
                if g = false then
                    if h = true then some k else some false
                  else some true
              else some true
            else
              if g = false then
                  if h = true then some k else some false
                else some true
          else some true
        else some true
      else some true
    else
      if c = false then
        if d = false then
          if e = true then
            if f = false then
              if g = false then
                  if h = true then some k else some false
                else some true
            else some true
          else
            if g = false then
                if h = true then some k else some false
              else some true
        else some true
      else some true : Option Bool) = some (a && b || c || d || e && f || g || h && k) := by decide +kernel

theorem r22_may_eq (s : SigM) (h : s.Ok) : F_affiantref22_may s.tup = some (decide s.may) := by
  unfold F_affiantref22_may SigM.tup
  simp only [r09_size_eq, r09_weak_eq, Option.bind_some]
  rw [bool22]
  simp only [Option.bind_some]
  have hX : (s.ver != 4 && s.ver != 6 || decide (s.ty < 0) || decide (s.ty > 255) || s.pub != 1 && s.pub != 27 || hsize s.hash == 0 || s.ver == 6 && decide (isWeak s.hash)) =
      decide (¬ ((s.ver = 4 ∨ s.ver = 6) ∧ (0 ≤ s.ty ∧ s.ty ≤ 255) ∧ (s.pub = 1 ∨ s.pub = 27) ∧ (hsize s.hash > 0 ∧ ¬ (s.ver = 6 ∧ isWeak s.hash)))) := by
    have hp := hsize_pos s.hash
    rw [Bool.eq_iff_iff]
    by_cases hw : isWeak s.hash
    · simp only [Bool.or_eq_true, Bool.and_eq_true, bne_iff_ne, ne_eq, decide_eq_true_eq, beq_iff_eq, hw, and_true, and_false, or_false, not_false_eq_true]
      omega
    · simp only [Bool.or_eq_true, Bool.and_eq_true, bne_iff_ne, ne_eq, decide_eq_true_eq, beq_iff_eq, hw, and_true, and_false, or_false, not_false_eq_true]
      omega
  rw [hX]
  simp only [decide_eq_true_eq]
  by_cases hB : (s.ver = 4 ∨ s.ver = 6) ∧ (0 ≤ s.ty ∧ s.ty ≤ 255) ∧ (s.pub = 1 ∨ s.pub = 27) ∧ (hsize s.hash > 0 ∧ ¬ (s.ver = 6 ∧ isWeak s.hash))
  · rw [if_neg (not_not_intro hB)]
    have hsalt : (if (s.ver == 4) = true then
          if decide (len (bytesV s.salt) > 0) = false then
            if (s.ver == 6) = true then (F_affiantref22_SaltSize s.hash).bind fun (v19 : Int) => some (len (bytesV s.salt) != v19) else some false
          else some true
        else
          if (s.ver == 6) = true then (F_affiantref22_SaltSize s.hash).bind fun (v20 : Int) => some (len (bytesV s.salt) != v20) else some false : Option Bool) = some (decide ¬ s.saltOk) := by
      rw [r22_salt_eq]
      have s4 : s.ver = 4 → (s.saltOk ↔ s.salt = []) := fun h => by unfold SigM.saltOk; rw [if_pos h]
      have s6 : s.ver ≠ 4 → (s.saltOk ↔ (s.salt.length : Int) = saltSize s.hash) := fun h => by unfold SigM.saltOk; rw [if_neg h]
      rcases hB.1 with h4 | h6
      · rw [if_pos (by simp [h4]), if_neg (c := (s.ver == 6) = true) (by simp [h4]), len_bytesV]
        by_cases hs : s.salt = []
        · rw [if_pos (by simp [hs])]; exact congrArg some (decide_eq_false (not_not_intro ((s4 h4).2 hs))).symm
        · have : s.salt.length ≠ 0 := fun h0 => hs (List.eq_nil_of_length_eq_zero h0)
          rw [if_neg (by simp; omega)]; exact congrArg some (decide_eq_true (p := ¬ s.saltOk) fun c => hs ((s4 h4).1 c)).symm
      · rw [if_neg (by simp [h6]), if_pos (by simp [h6]), len_bytesV]
        refine congrArg some ?_
        rw [Bool.eq_iff_iff]
        simp only [bne_iff_ne, ne_eq, decide_eq_true_eq]
        rw [s6 (by omega)]
    rw [hsalt]
    simp only [Option.bind_some, decide_eq_true_eq]
    by_cases hs : s.saltOk
    · rw [if_neg (by simpa using hs)]
      have hmay : s.may ↔ s.valueOk := ⟨fun c => c.2.2.2.2.2, fun c => ⟨hB.1, hB.2.1, hB.2.2.1, hB.2.2.2, hs, c⟩⟩
      rw [decide_eq_decide.2 hmay]
      unfold SigM.valueOk
      by_cases hp : s.pub = 27
      · rw [if_pos (by simpa using hp)]
        rw [len_bytesV]
        have : ((s.value.length : Int) == 64) = decide (if s.pub = 27 then s.value.length = 64 else (s.value = [] ∨ s.value.getD 0 0 ≠ 0) ∧ bitlen (beval s.value) ≤ 16384) := by
          rw [beqI]; exact decide_eq_decide.2 (by rw [if_pos hp]; omega)
        exact congrArg some this
      · have hv := h.vz
        obtain ⟨l, hl, hval, hlen, hr⟩ := r04_read_eq s.value (by omega)
        rw [if_neg (by simpa using hp), hr]
        simp only [Option.bind_some, all_id]
        rw [r04_bits_eq l hl hlen, hval]
        simp only [Option.bind_some]
        have fin : ∀ p : Prop, [Decidable p] → (p ↔ if s.pub = 27 then s.value.length = 64 else (s.value = [] ∨ s.value.getD 0 0 ≠ 0) ∧ bitlen (beval s.value) ≤ 16384) → (some (decide p) : Option Bool) = some (decide (if s.pub = 27 then s.value.length = 64 else (s.value = [] ∨ s.value.getD 0 0 ≠ 0) ∧ bitlen (beval s.value) ≤ 16384)) := fun p _ hi => congrArg some (decide_eq_decide.2 hi)
        rw [len_zero_bytes]
        by_cases h0 : s.value = []
        · rw [if_neg (by simp [h0])]
          exact fin _ (by rw [if_neg hp]; constructor; · intro h2; exact ⟨.inl h0, by omega⟩
                          · intro h2; omega)
        · rw [if_pos (by simp [h0]), getD_zero_byte h0]
          simp only [Option.bind_some, byteV, int?_int]
          by_cases hz : s.value.getD 0 0 = 0
          · rw [if_neg (by rw [hz]; simp)]
            exact fin False (by rw [if_neg hp]; exact ⟨False.elim, fun c => c.1.elim h0 fun c2 => c2 hz⟩)
          · have hz2 : (s.value.getD 0 0).toNat ≠ 0 := fun h0 => hz (UInt8.toNat_inj.1 h0)
            rw [if_pos (by simp only [bne_iff_ne]; omega)]
            exact fin _ (by rw [if_neg hp]; constructor; · intro h2; exact ⟨.inr hz, by omega⟩
                            · intro h2; omega)
    · rw [if_pos (by simpa using hs)]
      exact congrArg some (decide_eq_false fun c => hs c.2.2.2.2.1).symm
  · rw [if_pos hB]
    exact congrArg some (decide_eq_false fun c => hB ⟨c.1, c.2.1, c.2.2.1, c.2.2.2.1⟩).symm
end Go.Proofs.YtffofdfikmpanaaGreat.A

namespace Go.Proofs.YtffofdfikmpanaaGreat.A
set_option linter.unusedVariables false
set_option linter.unusedSimpArgs false
set_option maxRecDepth 10000

def emC (o : Nat ⊕ List UInt8) : Nat := match o with
  | .inl e => e
  | .inr _ => 0
theorem emR_eq (l : List SubM) : emR (subEmit l) = (if emC (subEmit l) = 0 then bytesV (subsB l) else nilV, (emC (subEmit l) : Int)) := by
  unfold subEmit
  split
  · rfl
  · split <;> rfl
theorem emC_small {l : List SubM} (h : emC (subEmit l) = 0) : (subsB l).length ≤ 4000 := by
  unfold subEmit at h
  split at h
  · simp [emC] at h
  · split at h
    · simp [emC] at h
    · omega
/-- A signature that may be emitted, and which error it is else. -/
def SigM.good (s : SigM) : Prop := s.may ∧ emC (subEmit s.hs) = 0 ∧ emC (subEmit s.us) = 0
instance (s : SigM) : Decidable s.good := by unfold SigM.good; infer_instance
def SigM.err (s : SigM) : Nat := if ¬ s.may ∨ emC (subEmit s.hs) = 1 ∨ emC (subEmit s.us) = 1 then 1 else 4
theorem SigM.err_ne (s : SigM) : (s.err : Int) ≠ 0 := by unfold SigM.err; split <;> decide
def SigM.hashed (s : SigM) : List UInt8 := [UInt8.ofNat s.ver.toNat, UInt8.ofNat s.ty.toNat, UInt8.ofNat s.pub.toNat, UInt8.ofNat s.hash.toNat] ++ beN (if s.ver = 6 then 4 else 2) (subsB s.hs).length ++ subsB s.hs
def SigM.trailer (s : SigM) : List UInt8 := s.hashed ++ [UInt8.ofNat s.ver.toNat, 255] ++ beN 4 s.hashed.length
theorem SigM.hashed_length {s : SigM} (h : s.good) : s.hashed.length ≤ 4010 := by
  have := emC_small h.2.1
  simp only [SigM.hashed, List.length_append, List.length_cons, List.length_nil, beN_length]
  split <;> omega
theorem SigM.trailer_length {s : SigM} (h : s.good) : s.trailer.length ≤ 4020 := by
  have := SigM.hashed_length h
  simp only [SigM.trailer, List.length_append, List.length_cons, List.length_nil, beN_length]; omega

theorem err_test (s : SigM) : (if (!decide s.may) = false then if (((emC (subEmit s.hs) : Nat) : Int) == 1) = false then some (((emC (subEmit s.us) : Nat) : Int) == 1) else some true else some true : Option Bool) =
    some (decide (¬ s.may ∨ emC (subEmit s.hs) = 1 ∨ emC (subEmit s.us) = 1)) := by
  by_cases hm : s.may
  · rw [if_pos (by simp [hm])]
    by_cases h1 : emC (subEmit s.hs) = 1
    · rw [if_neg (by simp [h1])]; exact congrArg some (decide_eq_true (.inr (.inl h1))).symm
    · rw [if_pos (by rw [beqI]; exact decide_eq_false (by omega)), beqI]
      have : (((emC (subEmit s.us) : Nat) : Int) = 1) ↔ (¬ s.may ∨ emC (subEmit s.hs) = 1 ∨ emC (subEmit s.us) = 1) := by
        constructor
        · intro h; exact .inr (.inr (by omega))
        · rintro (h | h | h)
          · exact absurd hm h
          · exact absurd h h1
          · omega
      exact congrArg some (decide_eq_decide.2 this)
  · rw [if_neg (by simp [hm])]; exact congrArg some (decide_eq_true (.inl hm)).symm
theorem err_test2 (a b : Nat) : (if ((a : Int) != 0) = false then some ((b : Int) != 0) else some true : Option Bool) = some (decide (¬ (a = 0 ∧ b = 0))) := by
  by_cases h : a = 0
  · rw [if_pos (by simp [h])]
    have : ((b : Int) != 0) = decide (¬ (a = 0 ∧ b = 0)) := by rw [Bool.eq_iff_iff]; simp [h]
    rw [this]
  · rw [if_neg (by simp [h])]; exact congrArg some (decide_eq_true (p := ¬ (a = 0 ∧ b = 0)) fun c => h c.1).symm

theorem SigM.not_good {s : SigM} (c1 : ¬ s.may ∨ emC (subEmit s.hs) = 1 ∨ emC (subEmit s.us) = 1) : ¬ s.good := by
  intro g
  rcases c1 with c | c | c
  · exact c g.1
  · have := g.2.1; omega
  · have := g.2.2; omega
theorem sig_areas_eq (s : SigM) (h : s.Ok) : F_sig_areas s.tup = some (if s.good then (bytesV (subsB s.hs), bytesV (subsB s.us), 0) else (nilV, nilV, (s.err : Int))) := by
  have e1 := sig_may_eq s h
  have hh := h.hz
  have hu := h.uz
  unfold SigM.tup at e1
  unfold F_sig_areas SigM.tup
  simp only
  rw [sub_emit_eq _ (by omega), sub_emit_eq _ (by omega), e1, emR_eq, emR_eq]
  simp only [Option.bind_some]
  rw [err_test, err_test2]
  simp only [Option.bind_some, decide_eq_true_eq]
  by_cases c1 : ¬ s.may ∨ emC (subEmit s.hs) = 1 ∨ emC (subEmit s.us) = 1
  · rw [if_pos c1, if_neg (SigM.not_good c1)]
    unfold SigM.err
    rw [if_pos c1]; rfl
  · rw [if_neg c1]
    have hm : s.may := Decidable.byContradiction fun hm => c1 (.inl hm)
    by_cases c2 : emC (subEmit s.hs) = 0 ∧ emC (subEmit s.us) = 0
    · have hg : s.good := ⟨hm, c2⟩
      rw [if_neg (not_not_intro c2), if_pos hg, if_pos c2.1, if_pos c2.2, all_id, all_id]
    · rw [if_pos c2, if_neg (fun g : s.good => c2 g.2)]
      unfold SigM.err
      rw [if_neg c1]; rfl

theorem hash_range {a : Int} (h : hsize a > 0) : 0 ≤ a ∧ a < 256 := by
  unfold hsize at h
  repeat' split at h
  all_goals omega
theorem pub_byte {s : SigM} (h : s.may) : [V.int .u8 (wu8 s.ver), V.int .u8 (wu8 s.ty), V.int .u8 (wu8 s.pub), V.int .u8 (wu8 s.hash)] = bytesV [UInt8.ofNat s.ver.toNat, UInt8.ofNat s.ty.toNat, UInt8.ofNat s.pub.toNat, UInt8.ofNat s.hash.toNat] := by
  obtain ⟨h1, h2, h3, h4, _⟩ := h
  have := hash_range h4.1
  rw [one_byte (by omega) (by omega), one_byte (by omega) (by omega), one_byte (by omega) (by omega), one_byte (by omega) (by omega)]
  rfl

theorem sig_put_eq (b a : List UInt8) (v : Int) (hb : b.length ≤ 1000000) (ha : a.length ≤ 4000) : F_sig_put (bytesV b, bytesV a, v) = some (bytesV (b ++ beN (if v = 6 then 4 else 2) a.length ++ a)) := by
  unfold F_sig_put
  simp only
  rw [sig_width_eq]
  simp only [Option.bind_some, len_bytesV]
  rw [wu64_nat, Nat.mod_eq_of_lt (by omega)]
  by_cases h6 : v = 6
  · rw [if_pos h6, if_pos h6]
    have := cur_put_eq b a.length 4 (by omega) (by omega) (by omega) (by omega)
    rw [show ((4 : Nat) : Int) = 4 from rfl] at this
    rw [this]
    simp only [Option.bind_some, all_id, bytesV_length, List.length_append, beN_length]
    rw [if_pos (by omega), ← bytesV_append]
  · rw [if_neg h6, if_neg h6]
    have := cur_put_eq b a.length 2 (by omega) (by omega) (by omega) (by omega)
    rw [show ((2 : Nat) : Int) = 2 from rfl] at this
    rw [this]
    simp only [Option.bind_some, all_id, bytesV_length, List.length_append, beN_length]
    rw [if_pos (by omega), ← bytesV_append]

theorem r22_area_eq (b : List UInt8) (l : List SubM) (v : Int) (hb : b.length ≤ 1000000) (hz : subsZ l ≤ 6000) (he : emC (subEmit l) = 0) :
    F_affiantref22_area (bytesV b, subsV l, v) = some (bytesV (b ++ beN (if v = 6 then 4 else 2) (subsB l).length ++ subsB l), 0) := by
  have ha := emC_small he
  unfold F_affiantref22_area
  simp only
  rw [r21_emit_eq _ (by omega), emR_eq, he]
  simp only [Option.bind_some, if_true]
  rw [if_neg (by decide), r22_width_eq]
  simp only [Option.bind_some, len_bytesV]
  rw [wu64_nat, Nat.mod_eq_of_lt (by omega)]
  by_cases h6 : v = 6
  · rw [if_pos h6, if_pos h6, r01_put4 _ _ (by omega) (by omega)]
    simp only [Option.bind_some, all_id, bytesV_length, List.length_append, beN_length]
    rw [if_pos (by omega), ← bytesV_append]
  · rw [if_neg h6, if_neg h6, r01_put2 _ _ (by omega) (by omega)]
    simp only [Option.bind_some, all_id, bytesV_length, List.length_append, beN_length]
    rw [if_pos (by omega), ← bytesV_append]

theorem r22_hashed_eq (s : SigM) (h : s.Ok) : F_affiantref22_Hashed s.tup = some (if s.good then (bytesV s.hashed, 0) else (nilV, (s.err : Int))) := by
  have e1 := r22_may_eq s h
  have hh := h.hz
  have hu := h.uz
  unfold SigM.tup at e1
  unfold F_affiantref22_Hashed SigM.tup
  simp only
  rw [r21_emit_eq _ (by omega), r21_emit_eq _ (by omega), e1, emR_eq, emR_eq]
  simp only [Option.bind_some]
  rw [err_test, err_test2]
  simp only [Option.bind_some, decide_eq_true_eq]
  by_cases c1 : ¬ s.may ∨ emC (subEmit s.hs) = 1 ∨ emC (subEmit s.us) = 1
  · rw [if_pos c1, if_neg (SigM.not_good c1)]
    unfold SigM.err
    rw [if_pos c1]; rfl
  · rw [if_neg c1]
    have hm : s.may := Decidable.byContradiction fun hm => c1 (.inl hm)
    by_cases c2 : emC (subEmit s.hs) = 0 ∧ emC (subEmit s.us) = 0
    · have hg : s.good := ⟨hm, c2⟩
      rw [if_neg (not_not_intro c2), if_pos hg, pub_byte hm, r22_area_eq _ _ _ (by simp) hh c2.1]
      rfl
    · rw [if_pos c2, if_neg (fun g : s.good => c2 g.2)]
      unfold SigM.err
      rw [if_neg c1]; rfl

theorem ver_byte {s : SigM} (h : s.may) (b : List UInt8) : bytesV b ++ [V.int .u8 (wu8 s.ver), V.int .u8 255] = bytesV (b ++ [UInt8.ofNat s.ver.toNat, 255]) := by
  obtain ⟨h1, _⟩ := h
  rw [one_byte (by omega) (by omega), bytesV_append]; rfl

/-- Pieces of an image. -/
def partsV (l : List (List UInt8)) : List V := l.map fun p => V.sl false false 1 (bytesV p)
theorem lst_sl (l : List V) : V.lst? false 1 (V.sl false false 1 l) = some l := by simp [V.lst?]
end Go.Proofs.YtffofdfikmpanaaGreat.A

namespace Go.Proofs.YtffofdfikmpanaaGreat.A
set_option linter.unusedVariables false
set_option linter.unusedSimpArgs false
set_option maxRecDepth 10000

/-- A signature as it comes in. -/
structure SigM.Ok0 (s : SigM) : Prop where
  h1 : s.hs.length ≤ 1000000000000000
  h2 : ∀ b ∈ s.hs, b.body.length ≤ 1000000000000000
  u1 : s.us.length ≤ 1000000000000000
  u2 : ∀ b ∈ s.us, b.body.length ≤ 1000000000000000
def SigM.small (s : SigM) : Prop := (s.hs.length ≤ 60 ∧ bodyZ s.hs ≤ 5000) ∧ (s.us.length ≤ 60 ∧ bodyZ s.us ≤ 5000) ∧ s.salt.length ≤ 100 ∧ s.value.length ≤ 2100
instance (s : SigM) : Decidable s.small := by unfold SigM.small; infer_instance
theorem SigM.small.ok {s : SigM} (h : s.small) : s.Ok := by
  obtain ⟨h1, h2, h3, h4⟩ := h
  exact ⟨by rw [subsZ_body]; omega, by rw [subsZ_body]; omega, h3, h4⟩
theorem small22_eq (s : SigM) (h : s.Ok0) : F_affiantref22_Small s.tup = some (decide s.small) := by
  unfold F_affiantref22_Small SigM.tup SigM.small
  simp only
  rw [sub_small_eq _ h.h2 h.h1, sub_small_eq _ h.u2 h.u1]
  simp only [Option.bind_some, decide_eq_true_eq, len_bytesV]
  by_cases c1 : s.hs.length ≤ 60 ∧ bodyZ s.hs ≤ 5000
  · rw [if_pos c1]
    by_cases c2 : s.us.length ≤ 60 ∧ bodyZ s.us ≤ 5000
    · rw [if_pos c2]
      by_cases c3 : s.salt.length ≤ 100
      · rw [if_pos (by omega)]; exact congrArg some (decide_eq_decide.2 ⟨fun c => ⟨c1, c2, c3, by omega⟩, fun c => by omega⟩)
      · rw [if_neg (by omega)]; exact congrArg some (decide_eq_false fun c => c3 c.2.2.1).symm
    · rw [if_neg c2]; exact congrArg some (decide_eq_false fun c => c2 c.2.1).symm
  · rw [if_neg c1]; exact congrArg some (decide_eq_false fun c => c1 c.1).symm

theorem KeyM.image_length {k : KeyM} (h : k.Ok) (hm : k.may) : k.image.length ≤ 4310 := by
  have := KeyM.body_length h hm
  unfold KeyM.image
  split <;> simp only [List.length_append, List.length_cons, List.length_nil, beN_length] <;> omega

def keyImg (s : SigM) (k : KeyM) : List V × Int := if k.may ∧ s.good then (bytesV (s.salt ++ k.image ++ s.trailer), 0) else (nilV, 1)
def userImg (s : SigM) (k : KeyM) (n : List UInt8) : List V × Int := if 500 < n.length then (nilV, 4) else if k.may ∧ s.good then (bytesV (s.salt ++ (k.image ++ [180] ++ beN 4 n.length ++ n) ++ s.trailer), 0) else (nilV, 1)
def subImg (s : SigM) (k j : KeyM) : List V × Int := if (k.may ∧ j.may) ∧ s.good then (bytesV (s.salt ++ (k.image ++ j.image) ++ s.trailer), 0) else (nilV, 1)

theorem sub_test (a b : Prop) [Decidable a] [Decidable b] : (if ((if a then (0 : Int) else 1) != 0) = false then some ((if b then (0 : Int) else 1) != 0) else some true : Option Bool) = some (decide (¬ (a ∧ b))) := by
  by_cases h1 : a <;> by_cases h2 : b <;> simp [h1, h2]
theorem nil_form : (nilV : List V) = bytesV [] := rfl
theorem keyImg_form (s : SigM) (k : KeyM) : ∃ b e, keyImg s k = (bytesV b, e) := by
  unfold keyImg; split
  · exact ⟨_, _, rfl⟩
  · exact ⟨[], 1, rfl⟩
theorem userImg_form (s : SigM) (k : KeyM) (n : List UInt8) : ∃ b e, userImg s k n = (bytesV b, e) := by
  unfold userImg; split
  · exact ⟨[], 4, rfl⟩
  · split
    · exact ⟨_, _, rfl⟩
    · exact ⟨[], 1, rfl⟩
theorem subImg_form (s : SigM) (k j : KeyM) : ∃ b e, subImg s k j = (bytesV b, e) := by
  unfold subImg; split
  · exact ⟨_, _, rfl⟩
  · exact ⟨[], 1, rfl⟩

/-- Two keys. -/
def keys2 (k j : KeyM) : Int × Int × Int × List V × List V × List Int × Int × Int × Int × List V × List V × List Int :=
  (k.ver, (k.cr : Int), k.alg, numV .u32 k.n, numV .u32 k.e, intB k.pt, j.ver, (j.cr : Int), j.alg, numV .u32 j.n, numV .u32 j.e, intB j.pt)

end Go.Proofs.YtffofdfikmpanaaGreat.A

namespace Go.Proofs.YtffofdfikmpanaaGreat.A
set_option linter.unusedVariables false
set_option linter.unusedSimpArgs false
set_option maxRecDepth 10000

/-- The two bytes of Left are bytes. -/
def SigM.lb (s : SigM) : Prop := (0 ≤ s.l0 ∧ s.l0 < 256) ∧ (0 ≤ s.l1 ∧ s.l1 < 256)
def SigM.left (s : SigM) : List UInt8 := [UInt8.ofNat s.l0.toNat, UInt8.ofNat s.l1.toNat]
theorem SigM.left_eq {s : SigM} (h : s.lb) : [V.int .u8 s.l0, V.int .u8 s.l1] = bytesV s.left := by
  obtain ⟨⟨h1, h2⟩, h3, h4⟩ := h
  obtain ⟨a, ha⟩ := Int.eq_ofNat_of_zero_le h1
  obtain ⟨b, hb⟩ := Int.eq_ofNat_of_zero_le h3
  simp only [SigM.left, bytesV_cons, bytesV_nil, ha, hb, Int.toNat_natCast]
  rw [byteV_ofNat (by omega), byteV_ofNat (by omega)]
def SigM.tail (s : SigM) : List UInt8 := s.left ++ (if s.ver = 6 then UInt8.ofNat s.salt.length :: s.salt else []) ++ (if s.pub = 27 then s.value else mpiB (beval s.value))
def SigM.wide (s : SigM) : Nat := if s.ver = 6 then 4 else 2
def SigM.front (s : SigM) : List UInt8 := s.hashed ++ beN s.wide (subsB s.us).length ++ subsB s.us
def SigM.body (s : SigM) : List UInt8 := s.front ++ s.tail
theorem SigM.front_length {s : SigM} (h : s.good) : s.front.length ≤ 9000 := by
  have h1 := SigM.hashed_length h
  have h2 := emC_small h.2.2
  simp only [SigM.front, SigM.wide, List.length_append, beN_length]
  split <;> omega
theorem SigM.body_length {s : SigM} (h : s.Ok) (g : s.good) : s.body.length ≤ 20000 := by
  have h1 := SigM.front_length g
  have h2 := h.sz
  have h3 := h.vz
  have hb : bitlen (beval s.value) ≤ 8 * s.value.length := bitlen_le.2 (by rw [Nat.pow_mul]; exact beval_lt s.value)
  simp only [SigM.body, SigM.tail, SigM.left, List.length_append, List.length_cons, List.length_nil]
  split <;> split <;> simp only [List.length_cons, List.length_nil, mpiB_length] <;> omega

theorem salt_byte (n : Nat) (h : n < 256) : V.int .u8 (wu8 (n : Int)) = byteV (UInt8.ofNat n) := by rw [wu8_nat]; exact byteV_of n
theorem good_value {s : SigM} (g : s.good) : (s.pub = 27 → s.value.length = 64) ∧ (s.pub ≠ 27 → bitlen (beval s.value) ≤ 16384) := by
  have := g.1.2.2.2.2.2
  unfold SigM.valueOk at this
  constructor
  · intro h; rw [if_pos h] at this; exact this
  · intro h; rw [if_neg h] at this; exact this.2
theorem good_pub {s : SigM} (g : s.good) : s.pub = 1 ∨ s.pub = 27 := g.1.2.2.1

theorem sig_emit_eq (s : SigM) (h : s.Ok) (hl : s.lb) : F_sig_Emit s.tup = some (if s.good then (bytesV s.body, 0) else (nilV, (s.err : Int))) := by
  have e1 := sig_areas_eq s h
  have hv := h.vz
  have hs := h.sz
  unfold SigM.tup at e1
  unfold F_sig_Emit SigM.tup
  simp only
  rw [e1]
  simp only [Option.bind_some]
  by_cases g : s.good
  · rw [if_pos g, if_pos g]
    simp only [bne_self_eq_false, Bool.false_eq_true, if_false]
    have hh := emC_small g.2.1
    have hu := emC_small g.2.2
    unfold F_sig_begin
    simp only [all_id]
    rw [pub_byte g.1, sig_put_eq _ _ _ (by simp) hh]
    simp only [Option.bind_some]
    have hw := SigM.hashed_length g
    have hf := SigM.front_length g
    rw [show [UInt8.ofNat s.ver.toNat, UInt8.ofNat s.ty.toNat, UInt8.ofNat s.pub.toNat, UInt8.ofNat s.hash.toNat] ++ beN (if s.ver = 6 then 4 else 2) (subsB s.hs).length ++ subsB s.hs = s.hashed from rfl, sig_put_eq _ _ _ (by omega) hu]
    simp only [Option.bind_some]
    rw [show s.hashed ++ beN (if s.ver = 6 then 4 else 2) (subsB s.us).length ++ subsB s.us = s.front from rfl, SigM.left_eq hl, if_pos (by rw [bytesV_length]; omega), ← bytesV_append]
    have gv := good_value g
    have hL : s.left.length = 2 := rfl
    by_cases h6 : s.ver = 6
    · rw [if_pos (by simpa using h6), if_pos (by rw [bytesV_length, List.length_append]; omega), len_bytesV, salt_byte _ (by omega), show [byteV (UInt8.ofNat s.salt.length)] = bytesV [UInt8.ofNat s.salt.length] from rfl, ← bytesV_append,
        if_pos (by rw [bytesV_length, bytesV_length]; simp only [List.length_append, List.length_cons, List.length_nil]; omega), ← bytesV_append]
      simp only [Option.bind_some, beq_iff_eq]
      by_cases hp : s.pub = 27
      · rw [if_pos hp, if_pos (by rw [bytesV_length, bytesV_length]; simp only [List.length_append, List.length_cons, List.length_nil]; omega), ← bytesV_append]
        simp only [SigM.body, SigM.tail, if_pos h6, if_pos hp, List.append_assoc, List.cons_append, List.nil_append]
      · rw [if_neg hp, nat_read_eq _ (by omega)]
        simp only [Option.bind_some]
        have hb := gv.2 hp
        rw [mpi_put_eq _ _ (isW_dig _) (Nat.le_trans (dig_length_le (by decide) (Nat.lt_of_lt_of_le (beval_lt s.value) (Nat.pow_le_pow_left (by decide) _))) (by omega)) (by simp only [List.length_append, List.length_cons, List.length_nil]; omega), val_dig (by decide), if_pos hb]
        simp only [Option.bind_some, SigM.body, SigM.tail, if_pos h6, if_neg hp, List.append_assoc, List.cons_append, List.nil_append]
    · rw [if_neg (by simpa using h6)]
      simp only [Option.bind_some, beq_iff_eq]
      by_cases hp : s.pub = 27
      · rw [if_pos hp, if_pos (by rw [bytesV_length, bytesV_length]; simp only [List.length_append, List.length_cons, List.length_nil]; omega), ← bytesV_append]
        simp only [SigM.body, SigM.tail, if_neg h6, if_pos hp, List.append_assoc, List.cons_append, List.nil_append]
      · rw [if_neg hp, nat_read_eq _ (by omega)]
        simp only [Option.bind_some]
        have hb := gv.2 hp
        rw [mpi_put_eq _ _ (isW_dig _) (Nat.le_trans (dig_length_le (by decide) (Nat.lt_of_lt_of_le (beval_lt s.value) (Nat.pow_le_pow_left (by decide) _))) (by omega)) (by simp only [List.length_append, List.length_cons, List.length_nil]; omega), val_dig (by decide), if_pos hb]
        simp only [Option.bind_some, SigM.body, SigM.tail, if_neg h6, if_neg hp, List.append_assoc, List.cons_append, List.nil_append]
  · rw [if_neg g, if_neg g]
    simp only
    rw [if_pos (by simpa using SigM.err_ne s)]

theorem r22_emit_eq (s : SigM) (h : s.Ok) (hl : s.lb) : F_affiantref22_Emit s.tup = some (if s.good then (bytesV s.body, 0) else (nilV, (s.err : Int))) := by
  have e1 := r22_hashed_eq s h
  have hv := h.vz
  have hs := h.sz
  unfold SigM.tup at e1
  unfold F_affiantref22_Emit SigM.tup
  simp only
  rw [e1]
  simp only [Option.bind_some]
  by_cases g : s.good
  · rw [if_pos g, if_pos g]
    simp only [bne_self_eq_false, Bool.false_eq_true, if_false]
    have hw := SigM.hashed_length g
    have hf := SigM.front_length g
    have e2 := r22_area_eq s.hashed s.us s.ver (by omega) h.uz g.2.2
    simp only [all_id]
    rw [e2]
    simp only [Option.bind_some]
    rw [show s.hashed ++ beN (if s.ver = 6 then 4 else 2) (subsB s.us).length ++ subsB s.us = s.front from rfl, SigM.left_eq hl, if_pos (by rw [bytesV_length]; omega), ← bytesV_append]
    have gv := good_value g
    have gp := good_pub g
    have hL : s.left.length = 2 := rfl
    by_cases h6 : s.ver = 6
    · rw [if_pos (by simpa using h6), if_pos (by rw [bytesV_length, List.length_append]; omega), len_bytesV, salt_byte _ (by omega), show [byteV (UInt8.ofNat s.salt.length)] = bytesV [UInt8.ofNat s.salt.length] from rfl, ← bytesV_append,
        if_pos (by rw [bytesV_length, bytesV_length]; simp only [List.length_append, List.length_cons, List.length_nil]; omega), ← bytesV_append]
      simp only [Option.bind_some, beq_iff_eq]
      by_cases hp : s.pub = 27
      · rw [if_neg (by omega), if_pos (by rw [bytesV_length, bytesV_length]; simp only [List.length_append, List.length_cons, List.length_nil]; omega), ← bytesV_append]
        simp only [SigM.body, SigM.tail, if_pos h6, if_pos hp, List.append_assoc, List.cons_append, List.nil_append]
      · obtain ⟨l, hlw, hval, hlen, hr⟩ := r04_read_eq s.value (by omega)
        rw [if_pos (by omega), hr]
        simp only [Option.bind_some]
        have hb := gv.2 hp
        rw [r20_put_eq _ _ hlw hlen (by simp only [List.length_append, List.length_cons, List.length_nil]; omega), hval, if_pos hb]
        simp only [Option.bind_some, SigM.body, SigM.tail, if_pos h6, if_neg hp, List.append_assoc, List.cons_append, List.nil_append]
    · rw [if_neg (by simpa using h6)]
      simp only [Option.bind_some, beq_iff_eq]
      by_cases hp : s.pub = 27
      · rw [if_neg (by omega), if_pos (by rw [bytesV_length, bytesV_length]; simp only [List.length_append, List.length_cons, List.length_nil]; omega), ← bytesV_append]
        simp only [SigM.body, SigM.tail, if_neg h6, if_pos hp, List.append_assoc, List.cons_append, List.nil_append]
      · obtain ⟨l, hlw, hval, hlen, hr⟩ := r04_read_eq s.value (by omega)
        rw [if_pos (by omega), hr]
        simp only [Option.bind_some]
        have hb := gv.2 hp
        rw [r20_put_eq _ _ hlw hlen (by simp only [List.length_append, List.length_cons, List.length_nil]; omega), hval, if_pos hb]
        simp only [Option.bind_some, SigM.body, SigM.tail, if_neg h6, if_neg hp, List.append_assoc, List.cons_append, List.nil_append]
  · rw [if_neg g, if_neg g]
    simp only
    rw [if_pos (by simpa using SigM.err_ne s)]
end Go.Proofs.YtffofdfikmpanaaGreat.A

namespace Go.Proofs.YtffofdfikmpanaaGreat.A
set_option linter.unusedVariables false
set_option linter.unusedSimpArgs false
set_option maxRecDepth 10000

theorem intsOf_arr {k : IntKind} {x : List Int} {r : List V} : ∀ {n i : Nat}, intsOf k n (arrV k x i n ++ r) = some (fitI x i n)
  | 0, i => rfl
  | n + 1, i => by simp only [arrV, List.cons_append, intsOf, intsOf_arr (n := n), fitI]; rfl
def Cc.fits : (c : Cc) → c.I → Prop
  | .arr _ n, x => x.length = n
  | _, _ => True
theorem Cc.take_self {c : Cc} {y : c.I} (h : c.fits y) (r : List V) : c.take (c.v y ++ r) = some (y, r) := by
  cases c with
  | arr k n =>
    simp only [Cc.take, Cc.v, intsOf_arr, Option.bind_some]
    rw [fitI_eq h, List.drop_left' (arrV_length)]
  | _ => simp [Cc.take, Cc.v, hdK, V.bool?, V.int?, V.str?, V.lst?]
def Cr.fits : (cs : List Cc) → Cr cs → Prop
  | [], _ => True
  | [c], y => c.fits y
  | c :: d :: r, y => c.fits y.1 ∧ Cr.fits (d :: r) y.2
theorem Cr.get_self : ∀ {cs : List Cc} {y : Cr cs}, Cr.fits cs y → Cr.get cs (Cr.v cs y) = some y
  | [], y, h => rfl
  | [c], y, h => by
    have := Cc.take_self (c := c) (y := y) h []
    rw [List.append_nil] at this
    simp only [Cr.get, Cr.v, this, Option.bind_some]
  | c :: d :: r, y, h => by
    simp only [Cr.get, Cr.v, Cc.take_self h.1, Option.bind_some, Cr.get_self h.2]
theorem st_self {cs : List Cc} {y : Cr cs} (h : Cr.fits cs y) : V.st? cs (.agg (Cr.v cs y)) = some y := by
  simp only [V.st?, V.agg?, Option.bind_some, Cr.get_self h]
theorem take_get {α : Type} {l : List α} {i : Nat} {x : α} (h : l[i]? = some x) : l.take (i + 1) = l.take i ++ [x] := by rw [List.take_add_one, h]; rfl
theorem get_mem {α : Type} {l : List α} {i : Nat} {x : α} (h : l[i]? = some x) : x ∈ l := List.mem_of_getElem? h
theorem w64_succ {i : Nat} (h : i < 4611686018427387904) : w64 ((i : Int) + 1) = ((i + 1 : Nat) : Int) := w64_nat (n := i + 1) (by omega)
end Go.Proofs.YtffofdfikmpanaaGreat.A

namespace Go.Proofs.YtffofdfikmpanaaGreat.A
set_option linter.unusedVariables false
set_option linter.unusedSimpArgs false
set_option maxRecDepth 10000

/-- A packet. -/
abbrev PktM := Int × List UInt8
def pktV (p : PktM) : V := .agg [.int .i64 p.1, .sl false false 1 (bytesV p.2)]
def pktsV (l : List PktM) : List V := l.map pktV
@[simp] theorem pktsV_length (l : List PktM) : (pktsV l).length = l.length := by simp [pktsV]
theorem pktsV_append (l m : List PktM) : pktsV (l ++ m) = pktsV l ++ pktsV m := by simp [pktsV]
def SigM.v (s : SigM) : V := .agg (Cr.v rapi_Sig s.tup)
def sigsV (l : List SigM) : List V := l.map SigM.v
@[simp] theorem sigsV_length (l : List SigM) : (sigsV l).length = l.length := by simp [sigsV]
theorem st_sig (s : SigM) : V.st? rapi_Sig s.v = some s.tup := st_self (by simp [Cr.fits, Cc.fits])
structure UserM where
  name : List UInt8
  sigs : List SigM
def UserM.v (u : UserM) : V := .agg (Cr.v [.str, .lst false 10] (u.name, sigsV u.sigs))
theorem st_user (u : UserM) : V.st? [.str, .lst false 10] u.v = some (u.name, sigsV u.sigs) := st_self (by simp [Cr.fits, Cc.fits])
structure SubkM where
  key : KeyM
  sigs : List SigM
def SubkM.tup (u : SubkM) : Int × Int × Int × List V × List V × List Int × List V := (u.key.ver, (u.key.cr : Int), u.key.alg, numV .u32 u.key.n, numV .u32 u.key.e, intB u.key.pt, sigsV u.sigs)
def SubkM.v (u : SubkM) : V := .agg (Cr.v rapi_Subkey u.tup)
theorem st_subk (u : SubkM) (h : u.key.pt.length = 32) : V.st? rapi_Subkey u.v = some u.tup := st_self (by simp [Cr.fits, Cc.fits, SubkM.tup, h])
structure CertM where
  key : KeyM
  sigs : List SigM
  users : List UserM
  subs : List SubkM
def usersV (l : List UserM) : List V := l.map UserM.v
def subksV (l : List SubkM) : List V := l.map SubkM.v
@[simp] theorem usersV_length (l : List UserM) : (usersV l).length = l.length := by simp [usersV]
@[simp] theorem subksV_length (l : List SubkM) : (subksV l).length = l.length := by simp [subksV]
def CertM.tup (c : CertM) : Int × Int × Int × List V × List V × List Int × List V × List V × List V :=
  (c.key.ver, (c.key.cr : Int), c.key.alg, numV .u32 c.key.n, numV .u32 c.key.e, intB c.key.pt, sigsV c.sigs, usersV c.users, subksV c.subs)

/-- Such as may be asked about. -/
def sigsOk (l : List SigM) : Prop := l.length ≤ 34 ∧ ∀ s ∈ l, s.Ok ∧ s.lb
structure CertM.Ok (c : CertM) : Prop where
  k : c.key.Ok
  s : sigsOk c.sigs
  ul : c.users.length ≤ 34
  u : ∀ u ∈ c.users, u.name.length ≤ 600 ∧ sigsOk u.sigs
  bl : c.subs.length ≤ 34
  b : ∀ u ∈ c.subs, u.key.Ok ∧ sigsOk u.sigs

def goods (l : List SigM) : Bool := l.all fun s => decide s.good
theorem goods_append (l m : List SigM) : goods (l ++ m) = (goods l && goods m) := by simp [goods]
theorem goods_one (s : SigM) : goods [s] = decide s.good := by simp [goods]
def sigPkts (l : List SigM) : List PktM := l.map fun s => (2, if s.good then s.body else [])
@[simp] theorem sigPkts_length (l : List SigM) : (sigPkts l).length = l.length := by simp [sigPkts]
theorem sigPkts_append (l m : List SigM) : sigPkts (l ++ m) = sigPkts l ++ sigPkts m := by simp [sigPkts]
theorem emit_fst (s : SigM) : (if s.good then (bytesV s.body, (0 : Int)) else (nilV, (s.err : Int))) = (bytesV (if s.good then s.body else []), if s.good then 0 else (s.err : Int)) := by split <;> rfl
theorem emit_zero (s : SigM) : ((if s.good then (0 : Int) else (s.err : Int)) == 0) = decide s.good := by
  by_cases g : s.good
  · simp [g]
  · simp only [if_neg g, g, decide_false, beq_eq_false_iff_ne]; exact SigM.err_ne s

theorem put_eq (p : List PktM) (w ok : Bool) (t : Int) (b : List UInt8) (h : p.length ≤ 1000000) :
    F_cert_writer_put ((pktsV p, w), t, bytesV b, ok) = some ((), (pktsV (p ++ [(t, b)]), w || !ok), (), (), ()) := by
  unfold F_cert_writer_put
  simp only [all_id]
  cases w
  · rw [if_pos rfl, if_pos (by rw [pktsV_length]; omega), pktsV_append]; rfl
  · rw [if_neg (by simp), if_pos (by rw [pktsV_length]; omega), pktsV_append]; rfl

theorem putSigs_eq (p : List PktM) (w : Bool) (l : List SigM) (hl : sigsOk l) (h : p.length ≤ 900000) :
    F_cert_writer_putSigs ((pktsV p, w), sigsV l) = some ((), (pktsV (p ++ sigPkts l), w || !goods l), ()) := by
  unfold F_cert_writer_putSigs
  simp only
  have hn := hl.1
  refine (congrArg (loopO _) ?_).trans (loopO_run (ι := Nat) (fun i => ((), sigsV l, len (sigsV l), (i : Int), pktsV (p ++ sigPkts (l.take i)), w || !goods (l.take i))) (fun _ => ((), (pktsV (p ++ sigPkts l), w || !goods l), ()))
    (fun i => i ≤ l.length) (fun i => l.length - i) ?_ 0 (by omega))
  · simp [sigPkts, goods]
  · intro i hi
    dsimp only
    by_cases hlt : i < l.length
    · left
      have hx : l[i]? = some l[i] := List.getElem?_eq_getElem hlt
      have hm := hl.2 _ (get_mem hx)
      refine ⟨i + 1, ?_, by omega, by omega, rfl⟩
      rw [if_pos (by simp [len]; omega), if_pos (by omega)]
      have hv : (sigsV l)[Int.toNat (i : Int)]? = some l[i].v := by simp [sigsV, hx]
      refine bind_to hv ?_
      refine bind_to (st_sig _) ?_
      have e := sig_emit_eq l[i] hm.1 hm.2
      rw [emit_fst] at e
      refine bind_to e ?_
      simp only [all_id, emit_zero]
      rw [put_eq _ _ _ _ _ (by simp; omega)]
      simp only [Option.bind_some]
      rw [take_get hx, sigPkts_append, goods_append, goods_one, w64_succ (by omega)]
      simp only [sigPkts, List.map_cons, List.map_nil, List.append_assoc, Bool.not_and, Bool.or_assoc]
    · right
      rw [if_neg (by simp [len]; omega), List.take_of_length_le (by omega)]

/-! ### Limits -/

def limU (l : List UserM) : Bool := l.all fun u => decide (u.sigs.length ≤ 30)
def limB (l : List SubkM) : Bool := l.all fun u => decide (u.sigs.length ≤ 30)
def CertM.lim (c : CertM) : Bool := (decide (c.users.length ≤ 30) && decide (c.subs.length ≤ 30) && decide (c.sigs.length ≤ 30)) && limU c.users && limB c.subs
theorem subk_fit {l : List SubkM} {i : Nat} {x : SubkM} (hl : ∀ u ∈ l, u.key.Ok ∧ sigsOk u.sigs) (h : l[i]? = some x) : V.st? [Cc.int .i64, Cc.int .u32, Cc.int .i64, Cc.lst false 1, Cc.lst false 1, Cc.arr .u8 32, Cc.lst false 10] x.v = some x.tup := st_subk x (hl x (get_mem h)).1.p
theorem users_get {l : List UserM} {i : Nat} {x : UserM} (h : l[i]? = some x) : (usersV l)[Int.toNat (i : Int)]? = some x.v := by simp [usersV, h]
theorem subks_get {l : List SubkM} {i : Nat} {x : SubkM} (h : l[i]? = some x) : (subksV l)[Int.toNat (i : Int)]? = some x.v := by simp [subksV, h]
theorem len_users (l : List UserM) : len (usersV l) = (l.length : Int) := by simp [len]
theorem len_subks (l : List SubkM) : len (subksV l) = (l.length : Int) := by simp [len]
theorem len_sigs (l : List SigM) : len (sigsV l) = (l.length : Int) := by simp [len]
theorem all_cut {α : Type} (p : α → Bool) {l : List α} {i : Nat} {x : α} (h : l[i]? = some x) : (l.drop i).all p = (p x && (l.drop (i + 1)).all p) := by
  obtain ⟨hi, rfl⟩ := List.getElem?_eq_some_iff.1 h
  rw [List.drop_eq_getElem_cons hi]; rfl

theorem r27_limits_eq (c : CertM) (h : c.Ok) : F_affiantref27_limits c.tup = some c.lim := by
  have hp := h.k.p
  unfold F_affiantref27_limits CertM.tup
  simp only [fitI_intB hp, len_users, len_subks, len_sigs, decide_eq_true_eq]
  have e0 : (if (c.users.length : Int) ≤ 30 then if (c.subs.length : Int) ≤ 30 then some (decide ((c.sigs.length : Int) ≤ 30)) else some false else some false : Option Bool) =
      some (decide (c.users.length ≤ 30) && decide (c.subs.length ≤ 30) && decide (c.sigs.length ≤ 30)) := by
    by_cases h1 : c.users.length ≤ 30
    · rw [if_pos (by omega)]
      by_cases h2 : c.subs.length ≤ 30
      · rw [if_pos (by omega), decide_eq_true h1, decide_eq_true h2]
        simp only [Bool.true_and]
        exact congrArg some (decide_eq_decide.2 (by omega))
      · rw [if_neg (by omega), decide_eq_false h2]; simp
    · rw [if_neg (by omega), decide_eq_false h1]; simp
  refine bind_to e0 ?_
  unfold CertM.lim
  generalize (decide (c.users.length ≤ 30) && decide (c.subs.length ≤ 30) && decide (c.sigs.length ≤ 30)) = b0
  refine (congrArg (loopO _) ?_).trans (loopO_run (ι := Nat × Bool) (fun z => (c.tup, z.2, (z.1 : Int))) (fun z => z.2 && limU (c.users.drop z.1) && limB c.subs)
    (fun z => z.1 ≤ c.users.length) (fun z => c.users.length - z.1) ?_ (0, b0) (by simp))
  · rfl
  · rintro ⟨i, b⟩ hi
    unfold CertM.tup
    dsimp only at hi ⊢
    by_cases hlt : i < c.users.length
    · left
      have hx : c.users[i]? = some c.users[i] := List.getElem?_eq_getElem hlt
      refine ⟨(i + 1, b && decide (c.users[i].sigs.length ≤ 30)), ?_, by simp only; omega, by simp only; omega, ?_⟩
      · rw [if_pos (by simp [len]; omega)]
        refine bind_to (v := b && decide (c.users[i].sigs.length ≤ 30)) ?_ ?_
        · cases b
          · simp
          · rw [if_pos rfl, if_pos (by omega)]
            refine bind_to (users_get hx) ?_
            refine bind_to (st_user _) ?_
            simp only [len_sigs, Bool.true_and]
            exact congrArg some (decide_eq_decide.2 (by omega))
        · simp only [fitI_intB hp, w64_succ (show i < 4611686018427387904 by have := h.ul; omega)]
      · simp only [limU, all_cut _ hx, Bool.and_assoc]
    · right
      rw [if_neg (by simp [len]; omega)]
      simp only [fitI_intB hp]
      refine bind_to ((congrArg (loopO _) ?_).trans (loopO_run (ι := Nat × Bool) (fun z => (c.tup, z.2, (z.1 : Int))) (fun z => z.2 && limB (c.subs.drop z.1))
        (fun z => z.1 ≤ c.subs.length) (fun z => c.subs.length - z.1) ?_ (0, b) (by simp))) ?_
      · rfl
      · rintro ⟨i, b⟩ hi
        unfold CertM.tup
        dsimp only at hi ⊢
        by_cases hlt : i < c.subs.length
        · left
          have hx : c.subs[i]? = some c.subs[i] := List.getElem?_eq_getElem hlt
          refine ⟨(i + 1, b && decide (c.subs[i].sigs.length ≤ 30)), ?_, by simp only; omega, by simp only; omega, ?_⟩
          · rw [if_pos (by simp [len]; omega)]
            refine bind_to (v := b && decide (c.subs[i].sigs.length ≤ 30)) ?_ ?_
            · cases b
              · simp
              · rw [if_pos rfl, if_pos (by omega)]
                refine bind_to (subks_get hx) ?_
                refine bind_to (subk_fit h.b hx) ?_
                simp only [SubkM.tup, len_sigs, Bool.true_and]
                exact congrArg some (decide_eq_decide.2 (by omega))
            · simp only [fitI_intB hp, w64_succ (show i < 4611686018427387904 by have := h.bl; omega)]
          · simp only [limB, all_cut _ hx, Bool.and_assoc]
        · right
          rw [if_neg (by simp [len]; omega)]
          simp only [List.drop_of_length_le (show c.subs.length ≤ i by omega), limB, List.all_nil, Bool.and_true]
      · simp only [List.drop_of_length_le (show c.users.length ≤ i by omega), limU, List.all_nil, Bool.and_true, List.drop_zero]

theorem tooMany_eq (l : List SigM) : F_cert_tooMany (sigsV l) = some (decide (30 < l.length)) := by
  unfold F_cert_tooMany
  rw [len_sigs]; exact congrArg some (decide_eq_decide.2 (by omega))
theorem passes1_eq (u : UserM) : F_cert_passes_1 (u.name, sigsV u.sigs) = some (decide (30 < u.sigs.length)) := by
  unfold F_cert_passes_1; simp only; rw [tooMany_eq]; rfl
theorem passes2_eq (u : SubkM) : F_cert_passes_2 u.tup = some (decide (30 < u.sigs.length)) := by
  unfold F_cert_passes_2 SubkM.tup; simp only; rw [tooMany_eq]; rfl

theorem cert_passes_eq (c : CertM) (h : c.Ok) : F_cert_passes c.tup = some (!c.lim) := by
  have hp := h.k.p
  unfold F_cert_passes CertM.tup
  simp only [len_users, len_subks, tooMany_eq, Option.bind_some]
  have hsub : ∀ (st : Nat → List V × Unit × Int × Int × Int) (hst : ∀ i, st i = (subksV c.subs, (), 0, (c.subs.length : Int), (i : Int))), loopO (σ := ((List V) × (Unit × (Int × (Int × Int))))) (R := Bool) (fun (v34, v35, v36, v37, v38) =>
                    if decide (v38 < v37) = true then
                      if 0 ≤ v38 then
                        (v34[Int.toNat v38]?).bind fun v39 =>
                        (V.st? [Cc.int .i64, Cc.int .u32, Cc.int .i64, Cc.lst false 1, Cc.lst false 1, Cc.arr .u8 32, Cc.lst false 10] v39).bind fun (v40, v41, v42, v43, v44, v45, v46) =>
                          (F_cert_passes_2 (v40, v41, v42, v43, v44, fitI (fitI v45 0 32) 0 32, v46) : Option Bool).bind fun (v47 : Bool) =>
                            if v47 = true then
                                some (.inr (decide (v38 ≥ 0)))
                              else
                                some (.inl ((v34, PUnit.unit, v36, v37, w64 (v38 + 1))))
                      else
                        none
                    else
                      some (.inr (decide (idI (-1) ≥ 0)))) (st 0) = some (!limB c.subs) := by
    intro st hst
    have := loopO_run (ι := Nat) (f := fun (v34, v35, v36, v37, v38) =>
                    if decide (v38 < v37) = true then
                      if 0 ≤ v38 then
                        (v34[Int.toNat v38]?).bind fun v39 =>
                        (V.st? [Cc.int .i64, Cc.int .u32, Cc.int .i64, Cc.lst false 1, Cc.lst false 1, Cc.arr .u8 32, Cc.lst false 10] v39).bind fun (v40, v41, v42, v43, v44, v45, v46) =>
                          (F_cert_passes_2 (v40, v41, v42, v43, v44, fitI (fitI v45 0 32) 0 32, v46) : Option Bool).bind fun (v47 : Bool) =>
                            if v47 = true then
                                some (.inr (decide (v38 ≥ 0)))
                              else
                                some (.inl ((v34, PUnit.unit, v36, v37, w64 (v38 + 1))))
                      else
                        none
                    else
                      some (.inr (decide (idI (-1) ≥ 0)))) st (fun i => !limB (c.subs.drop i))
      (fun i => i ≤ c.subs.length) (fun i => c.subs.length - i) ?_ 0 (by omega)
    · rw [List.drop_zero] at this; exact this
    · intro i hi
      rw [hst]
      dsimp only
      by_cases hlt : i < c.subs.length
      · have hx : c.subs[i]? = some c.subs[i] := List.getElem?_eq_getElem hlt
        have hk := (h.b _ (get_mem hx)).1.p
        have e := passes2_eq c.subs[i]
        unfold SubkM.tup at e
        have go : ∀ r, (if decide (30 < c.subs[i].sigs.length) = true then some (.inr (decide ((i : Int) ≥ 0))) else some (.inl (subksV c.subs, PUnit.unit, (0 : Int), (c.subs.length : Int), w64 ((i : Int) + 1))) : Option ((List V × Unit × Int × Int × Int) ⊕ Bool)) = r →
            (if decide ((i : Int) < (c.subs.length : Int)) = true then
                      if 0 ≤ (i : Int) then
                        ((subksV c.subs)[Int.toNat (i : Int)]?).bind fun v39 =>
                        (V.st? [Cc.int .i64, Cc.int .u32, Cc.int .i64, Cc.lst false 1, Cc.lst false 1, Cc.arr .u8 32, Cc.lst false 10] v39).bind fun (v40, v41, v42, v43, v44, v45, v46) =>
                          (F_cert_passes_2 (v40, v41, v42, v43, v44, fitI (fitI v45 0 32) 0 32, v46) : Option Bool).bind fun (v47 : Bool) =>
                            if v47 = true then
                                some (.inr (decide ((i : Int) ≥ 0)))
                              else
                                some (.inl ((subksV c.subs, PUnit.unit, 0, (c.subs.length : Int), w64 ((i : Int) + 1))))
                      else
                        none
                    else
                      some (.inr (decide (idI (-1) ≥ 0)))) = r := by
          intro r hr
          rw [if_pos (by simp; omega), if_pos (by omega)]
          refine bind_to (subks_get hx) ?_
          refine bind_to (subk_fit h.b hx) ?_
          simp only [SubkM.tup, fitI_intB hk]
          refine bind_to e ?_
          exact hr
        by_cases hb : 30 < c.subs[i].sigs.length
        · right
          refine go _ ?_
          rw [if_pos (by simpa using hb), limB, all_cut _ hx, decide_eq_false (p := c.subs[i].sigs.length ≤ 30) (by omega), decide_eq_true (p := (i : Int) ≥ 0) (by omega)]
          rfl
        · left
          refine ⟨i + 1, ?_, by omega, by omega, ?_⟩
          · refine go _ ?_
            rw [if_neg (by simpa using hb), hst, w64_succ (by have := h.bl; omega)]
          · rw [limB, limB, all_cut _ hx, decide_eq_true (by omega), Bool.true_and]
      · right
        rw [if_neg (by simp; omega), List.drop_of_length_le (by omega)]
        rfl
  have hS := hsub (fun i => (subksV c.subs, (), 0, (c.subs.length : Int), (i : Int))) (fun _ => rfl)
  clear hsub
  unfold CertM.lim
  by_cases h1 : c.users.length ≤ 30
  · rw [if_pos (by simp; omega)]
    by_cases h2 : c.subs.length ≤ 30
    · rw [if_pos (by simp; omega)]
      by_cases h3 : c.sigs.length ≤ 30
      · rw [if_pos (by simp; omega), decide_eq_true h1, decide_eq_true h2, decide_eq_true h3]
        simp only [Bool.true_and]
        refine bind_to ((congrArg (loopO _) ?_).trans (loopO_run (ι := Nat) (fun i => (usersV c.users, (), 0, (c.users.length : Int), (i : Int))) (fun i => !(limU (c.users.drop i) && limB c.subs))
          (fun i => i ≤ c.users.length) (fun i => c.users.length - i) ?_ 0 (by omega))) ?_
        · rfl
        · intro i hi
          dsimp only
          by_cases hlt : i < c.users.length
          · have hx : c.users[i]? = some c.users[i] := List.getElem?_eq_getElem hlt
            rw [if_pos (by simp; omega), if_pos (by omega), users_get hx, Option.bind_some, st_user, Option.bind_some]
            simp only
            rw [passes1_eq, Option.bind_some]
            by_cases hb : 30 < c.users[i].sigs.length
            · right
              rw [if_pos (by simpa using hb), if_neg (by simp), limU, all_cut _ hx, decide_eq_false (by omega)]
              rfl
            · left
              refine ⟨i + 1, ?_, by omega, by omega, ?_⟩
              · rw [if_neg (by simpa using hb), w64_succ (by have := h.ul; omega)]
              · rw [limU, limU, all_cut _ hx, decide_eq_true (by omega), Bool.true_and]
          · right
            rw [if_neg (by simp; omega), List.drop_of_length_le (by omega)]
            refine bind_to hS ?_
            simp [limU]
        · simp
      · rw [if_neg (by simp; omega), decide_eq_false h3]; simp
    · rw [if_neg (by simp; omega), decide_eq_false h2]; simp
  · rw [if_neg (by simp; omega), decide_eq_false h1]; simp
end Go.Proofs.YtffofdfikmpanaaGreat.A

namespace Go.Proofs.YtffofdfikmpanaaGreat.A
set_option linter.unusedVariables false
set_option linter.unusedSimpArgs false
set_option maxRecDepth 10000

def isNameB (s : List UInt8) : Bool := s.all (fun b => decide (32 ≤ b.toNat)) && decide (s.length ≤ 500)
theorem r24_name_eq (s : List UInt8) (h : s.length ≤ 1000000) : F_affiantref24_IsName s = some (isNameB s) := by
  unfold F_affiantref24_IsName
  refine (congrArg (loopO _) ?_).trans (loopO_run (ι := Nat) (fun i => (s, false, (i : Int))) (fun i => (s.drop i).all (fun b => decide (32 ≤ b.toNat)) && decide (s.length ≤ 500))
    (fun i => i ≤ s.length) (fun i => s.length - i) ?_ 0 (by omega))
  · rfl
  · intro i hi
    dsimp only
    by_cases hlt : i < s.length
    · have hx : s[i]? = some s[i] := List.getElem?_eq_getElem hlt
      rw [if_pos (by simp [len]; omega), if_pos (by omega), Int.toNat_natCast, hx, Option.bind_some]
      by_cases hb : s[i].toNat < 32
      · right
        rw [if_pos (by simp; omega), all_cut _ hx, decide_eq_false (p := 32 ≤ s[i].toNat) (by omega)]
        rfl
      · left
        refine ⟨i + 1, ?_, by omega, by omega, ?_⟩
        · rw [if_neg (by simp; omega), w64_succ (by omega)]
        · rw [all_cut _ hx, decide_eq_true (p := 32 ≤ s[i].toNat) (by omega), Bool.true_and]
    · right
      rw [if_neg (by simp [len]; omega), List.drop_of_length_le (by omega), List.all_nil, Bool.true_and]
      exact congrArg some (congrArg Sum.inr (decide_eq_decide.2 (by simp only [len]; omega)))
theorem lit_name_eq (s : List UInt8) (h : s.length ≤ 1000000) : F_literal_IsName s = some (isNameB s) := by
  unfold F_literal_IsName
  rw [if_pos (by omega)]
  refine (congrArg (loopO _) ?_).trans (loopO_run (ι := Nat) (fun i => (false, bytesV s, len (bytesV s), (i : Int))) (fun i => (s.drop i).all (fun b => decide (32 ≤ b.toNat)) && decide (s.length ≤ 500))
    (fun i => i ≤ s.length) (fun i => s.length - i) ?_ 0 (by omega))
  · rfl
  · intro i hi
    dsimp only
    rw [len_bytesV]
    by_cases hlt : i < s.length
    · have hx : s[i]? = some s[i] := List.getElem?_eq_getElem hlt
      have hv : (bytesV s)[0 + Int.toNat (i : Int)]? = some (byteV s[i]) := by rw [Int.toNat_natCast, Nat.zero_add, bytesV_get, hx]; rfl
      rw [if_pos (by simp; omega), if_pos (by omega), hv, Option.bind_some]
      simp only [byteV_cells, List.getElem?_cons_zero, Option.bind_some, byteV_int]
      by_cases hb : s[i].toNat < 32
      · right
        rw [if_pos (by simp; omega), all_cut _ hx, decide_eq_false (p := 32 ≤ s[i].toNat) (by omega)]
        rfl
      · left
        refine ⟨i + 1, ?_, by omega, by omega, ?_⟩
        · rw [if_neg (by simp; omega), w64_succ (by omega)]
        · rw [all_cut _ hx, decide_eq_true (p := 32 ≤ s[i].toNat) (by omega), Bool.true_and]
    · right
      rw [if_neg (by simp; omega), List.drop_of_length_le (by omega), List.all_nil, Bool.true_and]
      exact congrArg some (congrArg Sum.inr (decide_eq_decide.2 (by simp only [len]; omega)))

/-! ### Emit -/

def keyB (k : KeyM) : List UInt8 := if k.may then k.body else []
theorem keyB_pair (k : KeyM) : (if k.may then (bytesV k.body, (0 : Int)) else (nilV, 1)) = (bytesV (keyB k), if k.may then 0 else 1) := by unfold keyB; split <;> rfl
theorem keyB_zero (k : KeyM) : ((if k.may then (0 : Int) else 1) == 0) = decide k.may := by by_cases h : k.may <;> simp [h]
theorem putKey_eq (p : List PktM) (w : Bool) (t : Int) (k : KeyM) (hk : k.Ok) (h : p.length ≤ 900000) :
    F_cert_writer_putKey ((pktsV p, w), t, k.tup) = some ((), (pktsV (p ++ [(t, keyB k)]), w || !decide k.may), (), ()) := by
  have e := key_emit_eq k hk
  rw [keyB_pair] at e
  unfold KeyM.tup at e
  unfold F_cert_writer_putKey KeyM.tup
  simp only [fitI_intB hk.p]
  refine bind_to e ?_
  simp only [all_id, keyB_zero]
  rw [put_eq _ _ _ _ _ (by omega)]; rfl

def userG (u : UserM) : Bool := isNameB u.name && goods u.sigs
def userP (u : UserM) : List PktM := (13, u.name) :: sigPkts u.sigs
def subkG (u : SubkM) : Bool := decide u.key.may && goods u.sigs
def subkP (u : SubkM) : List PktM := (14, keyB u.key) :: sigPkts u.sigs
theorem flat_bound {α β : Type} {f : α → List β} {k : Nat} : ∀ {l : List α}, (∀ x ∈ l, (f x).length ≤ k) → (l.flatMap f).length ≤ k * l.length
  | [], _ => by simp
  | a :: l, h => by
    have h1 := h a (by simp)
    have h2 := flat_bound (f := f) (k := k) (l := l) fun x hx => h x (List.mem_cons_of_mem _ hx)
    simp only [List.flatMap_cons, List.length_append, List.length_cons, Nat.mul_add, Nat.mul_one]; omega
theorem flatMap_same {α β : Type} {f g : α → List β} : ∀ {l : List α}, (∀ x ∈ l, f x = g x) → l.flatMap f = l.flatMap g
  | [], _ => rfl
  | a :: l, h => by rw [List.flatMap_cons, List.flatMap_cons, h a (by simp), flatMap_same fun x hx => h x (List.mem_cons_of_mem _ hx)]
theorem flat_cut {α β : Type} (f : α → List β) {l : List α} {i : Nat} {x : α} (h : l[i]? = some x) : (l.take (i + 1)).flatMap f = (l.take i).flatMap f ++ f x := by rw [take_get h]; simp
theorem all_take {α : Type} (p : α → Bool) {l : List α} {i : Nat} {x : α} (h : l[i]? = some x) : (l.take (i + 1)).all p = ((l.take i).all p && p x) := by rw [take_get h]; simp
theorem CertM.Ok.user_len {c : CertM} (h : c.Ok) (i : Nat) : ((c.users.take i).flatMap userP).length ≤ 35 * 34 := by
  have h1 := flat_bound (f := userP) (k := 35) (l := c.users.take i) fun x hx => by
    have := (h.u x (List.mem_of_mem_take hx)).2.1
    simp only [userP, List.length_cons, sigPkts_length]; omega
  have h2 := h.ul
  rw [List.length_take] at h1
  have : 35 * min i c.users.length ≤ 35 * 34 := Nat.mul_le_mul_left _ (by omega)
  omega
theorem CertM.Ok.subk_len {c : CertM} (h : c.Ok) (i : Nat) : ((c.subs.take i).flatMap subkP).length ≤ 35 * 34 := by
  have h1 := flat_bound (f := subkP) (k := 35) (l := c.subs.take i) fun x hx => by
    have := (h.b x (List.mem_of_mem_take hx)).2.1
    simp only [subkP, List.length_cons, sigPkts_length]; omega
  have h2 := h.bl
  rw [List.length_take] at h1
  have : 35 * min i c.subs.length ≤ 35 * 34 := Nat.mul_le_mul_left _ (by omega)
  omega
def CertM.pkts (c : CertM) : List PktM := ((6, keyB c.key) :: sigPkts c.sigs) ++ c.users.flatMap userP ++ c.subs.flatMap subkP
def CertM.fine (c : CertM) : Bool := (decide c.key.may && goods c.sigs) && c.users.all userG && c.subs.all subkG
def CertM.ans (c : CertM) : List V × Int := if c.fine then (if c.lim then (pktsV c.pkts, 0) else (nilV, 4)) else (nilV, 1)

theorem cert_emit_eq (c : CertM) (h : c.Ok) : F_cert_Emit c.tup = some c.ans := by
  have hp := h.k.p
  have e0 := putKey_eq [] false 6 c.key h.k (by simp)
  have e1 := putSigs_eq [(6, keyB c.key)] (false || !decide c.key.may) c.sigs h.s (by simp)
  have e2 := cert_passes_eq c h
  unfold KeyM.tup at e0
  unfold CertM.tup at e2
  unfold F_cert_Emit CertM.tup
  simp only [fitI_intB hp]
  refine bind_to e0 ?_
  refine bind_to e1 ?_
  rw [len_users]
  have hlen : c.sigs.length ≤ 34 := h.s.1
  have hul := h.ul
  have hbl := h.bl
  have hg0 : (false || !decide c.key.may || !goods c.sigs) = !(decide c.key.may && goods c.sigs) := by simp
  rw [hg0, show [(6, keyB c.key)] ++ sigPkts c.sigs = (6, keyB c.key) :: sigPkts c.sigs from rfl]
  unfold CertM.ans CertM.fine CertM.pkts
  generalize hg : (decide c.key.may && goods c.sigs) = g
  have hbase : ((6, keyB c.key) :: sigPkts c.sigs).length ≤ 40 := by simp; omega
  generalize ((6, keyB c.key) :: sigPkts c.sigs : List PktM) = base at hbase
  refine (congrArg (loopO _) ?_).trans (loopO_run (ι := Nat) (fun i => ((pktsV (base ++ (c.users.take i).flatMap userP), !(g && (c.users.take i).all userG)), usersV c.users, (c.users.length : Int), (i : Int)))
    (fun i => _) (fun i => i ≤ c.users.length) (fun i => c.users.length - i) ?_ 0 (by omega))
  · simp
  · intro i hi
    dsimp only
    by_cases hlt : i < c.users.length
    · left
      have hx : c.users[i]? = some c.users[i] := List.getElem?_eq_getElem hlt
      have hu := h.u _ (get_mem hx)
      have hlu := h.user_len i
      refine ⟨i + 1, ?_, by omega, by omega, rfl⟩
      rw [if_pos (by simp; omega), if_pos (by omega)]
      refine bind_to (users_get hx) ?_
      refine bind_to (st_user _) ?_
      dsimp only
      rw [if_pos (by omega)]
      refine bind_to (lit_name_eq _ (by omega)) ?_
      refine bind_to (put_eq _ _ _ _ _ (by simp only [List.length_append]; omega)) ?_
      refine bind_to (putSigs_eq _ _ _ hu.2 (by simp only [List.length_append, List.length_cons, List.length_nil]; omega)) ?_
      dsimp only
      rw [flat_cut _ hx, all_take _ hx, w64_succ (by omega)]
      unfold userP userG
      simp only [List.append_assoc, List.cons_append, List.nil_append, Bool.not_and, Bool.or_assoc]
    · right
      rw [if_neg (by simp; omega), List.take_of_length_le (by omega)]
      have hlu := h.user_len c.users.length
      rw [List.take_length] at hlu
      rw [len_subks]
      refine bind_to ((congrArg (loopO _) ?_).trans (loopO_run (ι := Nat) (fun i => ((pktsV (base ++ c.users.flatMap userP ++ (c.subs.take i).flatMap subkP), !(g && c.users.all userG && (c.subs.take i).all subkG)), subksV c.subs, (c.subs.length : Int), (i : Int)))
        (fun i => if (g && c.users.all userG && c.subs.all subkG) = true then if c.lim = true then (pktsV (base ++ c.users.flatMap userP ++ c.subs.flatMap subkP), 0) else (nilV, 4) else (nilV, 1)) (fun i => i ≤ c.subs.length) (fun i => c.subs.length - i) ?_ 0 (by omega))) rfl
      · simp
      · intro i hi
        dsimp only
        by_cases hlt : i < c.subs.length
        · left
          have hx : c.subs[i]? = some c.subs[i] := List.getElem?_eq_getElem hlt
          have hu := h.b _ (get_mem hx)
          have hls := h.subk_len i
          refine ⟨i + 1, ?_, by omega, by omega, rfl⟩
          rw [if_pos (by simp; omega), if_pos (by omega)]
          refine bind_to (subks_get hx) ?_
          refine bind_to (subk_fit h.b hx) ?_
          simp only [SubkM.tup, fitI_intB hu.1.p]
          refine bind_to (putKey_eq _ _ 14 _ hu.1 (by simp only [List.length_append]; omega)) ?_
          refine bind_to (putSigs_eq _ _ _ hu.2 (by simp only [List.length_append, List.length_cons, List.length_nil]; omega)) ?_
          dsimp only
          rw [flat_cut _ hx, all_take _ hx, w64_succ (by omega)]
          unfold subkP subkG
          simp only [List.append_assoc, List.cons_append, List.nil_append, Bool.not_and, Bool.or_assoc]
        · right
          rw [if_neg (by simp; omega), List.take_of_length_le (by omega)]
          cases hg2 : (g && c.users.all userG && c.subs.all subkG)
          · simp
          · simp only [Bool.not_true, Bool.false_eq_true, if_false, fitI_intB hp]
            rw [e2]
            cases c.lim <;> simp [all_id]

/-! ### The reference's -/

def rsP (l : List SigM) : List PktM := if goods l = true then sigPkts l else []
theorem rsP_length (l : List SigM) : (rsP l).length ≤ l.length := by unfold rsP; split <;> simp
theorem signatures_eq (l : List SigM) (hl : sigsOk l) : F_affiantref27_signatures (sigsV l) = some (pktsV (rsP l), goods l) := by
  unfold F_affiantref27_signatures
  have hn := hl.1
  refine (congrArg (loopO _) ?_).trans (loopO_run (ι := Nat) (fun i => (sigsV l, nilV, false, pktsV (sigPkts (l.take i)), (i : Int))) (fun _ => (pktsV (rsP l), goods l))
    (fun i => i ≤ l.length ∧ goods (l.take i) = true) (fun i => l.length - i) ?_ 0 ⟨by omega, by simp [goods]⟩)
  · rfl
  · rintro i ⟨hi, hg⟩
    dsimp only
    by_cases hlt : i < l.length
    · have hx : l[i]? = some l[i] := List.getElem?_eq_getElem hlt
      have hm := hl.2 _ (get_mem hx)
      have hv : (sigsV l)[Int.toNat (i : Int)]? = some l[i].v := by simp [sigsV, hx]
      have e := r22_emit_eq l[i] hm.1 hm.2
      rw [if_pos (by simp [len]; omega), if_pos (by omega), hv, Option.bind_some, show V.st? [Cc.int .i64, Cc.int .i64, Cc.int .i64, Cc.int .i64, Cc.lst false 3, Cc.lst false 3, Cc.int .u8, Cc.int .u8, Cc.lst false 1, Cc.lst false 1] l[i].v = some l[i].tup from st_sig _, Option.bind_some]
      by_cases g : l[i].good
      · left
        refine ⟨i + 1, ?_, ⟨by omega, ?_⟩, by omega, rfl⟩
        · rw [if_pos g] at e
          refine bind_to e ?_
          simp only [bne_self_eq_false, Bool.false_eq_true, if_false, all_id]
          rw [if_pos (by simp; omega), take_get hx, sigPkts_append, pktsV_append, w64_succ (by omega)]
          simp only [sigPkts, List.map_cons, List.map_nil, if_pos g]
          rfl
        · rw [take_get hx, goods_append, goods_one, hg, decide_eq_true g]; rfl
      · right
        have hgl : goods l = false := by
          rw [Bool.eq_false_iff]
          intro hall
          exact g (by simpa using List.all_eq_true.1 hall _ (get_mem hx))
        rw [if_neg g] at e
        refine bind_to e ?_
        dsimp only
        rw [if_pos (by simpa using SigM.err_ne _)]
        unfold rsP
        rw [hgl]; rfl
    · right
      rw [List.take_of_length_le (by omega)] at hg ⊢
      rw [if_neg (by simp [len]; omega)]
      unfold rsP
      rw [hg, if_pos rfl, all_id]

def userR (u : UserM) : List PktM := (13, u.name) :: rsP u.sigs
def subkR (u : SubkM) : List PktM := (14, keyB u.key) :: rsP u.sigs
theorem rsP_good {l : List SigM} (h : goods l = true) : rsP l = sigPkts l := by unfold rsP; rw [if_pos h]
theorem userR_good {l : List UserM} (h : l.all userG = true) : l.flatMap userR = l.flatMap userP := by
  refine flatMap_same fun u hu => ?_
  have := List.all_eq_true.1 h u hu
  unfold userR userP
  rw [rsP_good (Bool.and_eq_true_iff.1 this).2]
theorem subkR_good {l : List SubkM} (h : l.all subkG = true) : l.flatMap subkR = l.flatMap subkP := by
  refine flatMap_same fun u hu => ?_
  have := List.all_eq_true.1 h u hu
  unfold subkR subkP
  rw [rsP_good (Bool.and_eq_true_iff.1 this).2]
theorem CertM.Ok.userR_len {c : CertM} (h : c.Ok) (i : Nat) : ((c.users.take i).flatMap userR).length ≤ 35 * 34 := by
  have h1 := flat_bound (f := userR) (k := 35) (l := c.users.take i) fun x hx => by
    have := (h.u x (List.mem_of_mem_take hx)).2.1
    have := rsP_length x.sigs
    simp only [userR, List.length_cons]; omega
  have h2 := h.ul
  rw [List.length_take] at h1
  have : 35 * min i c.users.length ≤ 35 * 34 := Nat.mul_le_mul_left _ (by omega)
  omega
theorem CertM.Ok.subkR_len {c : CertM} (h : c.Ok) (i : Nat) : ((c.subs.take i).flatMap subkR).length ≤ 35 * 34 := by
  have h1 := flat_bound (f := subkR) (k := 35) (l := c.subs.take i) fun x hx => by
    have := (h.b x (List.mem_of_mem_take hx)).2.1
    have := rsP_length x.sigs
    simp only [subkR, List.length_cons]; omega
  have h2 := h.bl
  rw [List.length_take] at h1
  have : 35 * min i c.subs.length ≤ 35 * 34 := Nat.mul_le_mul_left _ (by omega)
  omega
theorem pkt_one (t : Int) (b : List UInt8) : [V.agg [V.int .i64 t, V.sl false false 1 (bytesV b)]] = pktsV [(t, b)] := rfl
theorem if_and (a b : Bool) : (if a = true then some b else some false : Option Bool) = some (a && b) := by cases a <;> rfl

theorem r27_emit_eq (c : CertM) (h : c.Ok) : F_affiantref27_Emit c.tup = some c.ans := by
  have hp := h.k.p
  have e0 := r23_emit_eq c.key h.k
  rw [keyB_pair] at e0
  have e1 := signatures_eq c.sigs h.s
  have e2 := r27_limits_eq c h
  unfold KeyM.tup at e0
  unfold CertM.tup at e2
  unfold F_affiantref27_Emit CertM.tup
  simp only [fitI_intB hp]
  refine bind_to e0 ?_
  refine bind_to e1 ?_
  have hlen : c.sigs.length ≤ 34 := h.s.1
  have hr0 := rsP_length c.sigs
  have hul := h.ul
  have hbl := h.bl
  dsimp only
  simp only [all_id, keyB_zero]
  rw [show (if goods c.sigs = true then some (decide c.key.may) else some false : Option Bool) = some (decide c.key.may && goods c.sigs) by rw [if_and, Bool.and_comm]]
  rw [Option.bind_some, if_pos (by rw [pktsV_length]; omega), pkt_one, ← pktsV_append]
  have hans : c.ans = if c.fine then (if c.lim then (pktsV (((6, keyB c.key) :: rsP c.sigs) ++ c.users.flatMap userR ++ c.subs.flatMap subkR), 0) else (nilV, 4)) else (nilV, 1) := by
    unfold CertM.ans
    cases hf : c.fine
    · rfl
    · have hf2 := hf
      unfold CertM.fine at hf2
      simp only [Bool.and_eq_true] at hf2
      obtain ⟨⟨⟨_, q1⟩, q2⟩, q3⟩ := hf2
      rw [rsP_good q1, userR_good q2, subkR_good q3]; rfl
  rw [hans, show [(6, keyB c.key)] ++ rsP c.sigs = (6, keyB c.key) :: rsP c.sigs from rfl]
  unfold CertM.fine
  generalize hg : (decide c.key.may && goods c.sigs) = g
  have hbase : ((6, keyB c.key) :: rsP c.sigs).length ≤ 40 := by simp; omega
  generalize ((6, keyB c.key) :: rsP c.sigs : List PktM) = base at hbase
  refine (congrArg (loopO _) ?_).trans (loopO_run (ι := Nat) (fun i => (c.tup, (g && (c.users.take i).all userG), pktsV (base ++ (c.users.take i).flatMap userR), (i : Int)))
    (fun i => _) (fun i => i ≤ c.users.length) (fun i => c.users.length - i) ?_ 0 (by omega))
  · simp; rfl
  · intro i hi
    unfold CertM.tup
    dsimp only
    rw [len_users]
    by_cases hlt : i < c.users.length
    · left
      have hx : c.users[i]? = some c.users[i] := List.getElem?_eq_getElem hlt
      have hu := h.u _ (get_mem hx)
      have hlu := h.userR_len i
      have hrl := rsP_length c.users[i].sigs
      have hsl := hu.2.1
      refine ⟨i + 1, ?_, by omega, by omega, rfl⟩
      rw [if_pos (by simp; omega), if_pos (by omega)]
      refine bind_to (users_get hx) ?_
      refine bind_to (st_user _) ?_
      refine bind_to (signatures_eq _ hu.2) ?_
      dsimp only
      refine bind_to (v := (g && (c.users.take i).all userG) && userG c.users[i]) ?_ ?_
      · unfold userG
        cases (g && (c.users.take i).all fun u => isNameB u.name && goods u.sigs)
        · rfl
        · rw [if_pos rfl]
          cases goods c.users[i].sigs
          · simp
          · rw [if_pos rfl, if_pos (by omega)]
            refine bind_to (users_get hx) ?_
            refine bind_to (st_user _) ?_
            refine bind_to (r24_name_eq c.users[i].name (by omega)) ?_
            simp
      · rw [if_pos (by omega)]
        refine bind_to (users_get hx) ?_
        refine bind_to (st_user _) ?_
        dsimp only
        rw [if_pos (by omega), if_pos (by simp only [pktsV_length, List.length_append]; omega), pkt_one, ← pktsV_append,
          if_pos (by simp only [pktsV_length, List.length_append, List.length_cons, List.length_nil]; omega), ← pktsV_append, flat_cut _ hx, all_take _ hx, w64_succ (by omega), fitI_intB hp]
        unfold userR
        simp only [List.append_assoc, List.cons_append, List.nil_append, Bool.and_assoc]
    · right
      rw [if_neg (by simp; omega), List.take_of_length_le (by omega)]
      have hlu := h.userR_len c.users.length
      rw [List.take_length] at hlu
      simp only [fitI_intB hp]
      refine bind_to ((congrArg (loopO _) ?_).trans (loopO_run (ι := Nat) (fun i => (c.tup, (g && c.users.all userG && (c.subs.take i).all subkG), pktsV (base ++ c.users.flatMap userR ++ (c.subs.take i).flatMap subkR), (i : Int)))
        (fun i => if (g && c.users.all userG && c.subs.all subkG) = true then if c.lim = true then (pktsV (base ++ c.users.flatMap userR ++ c.subs.flatMap subkR), 0) else (nilV, 4) else (nilV, 1)) (fun i => i ≤ c.subs.length) (fun i => c.subs.length - i) ?_ 0 (by omega))) rfl
      · simp; rfl
      · intro i hi
        unfold CertM.tup
        dsimp only
        rw [len_subks]
        by_cases hlt : i < c.subs.length
        · left
          have hx : c.subs[i]? = some c.subs[i] := List.getElem?_eq_getElem hlt
          have hu := h.b _ (get_mem hx)
          have hls := h.subkR_len i
          have hrl := rsP_length c.subs[i].sigs
          have hsl := hu.2.1
          have e4 := r23_emit_eq c.subs[i].key hu.1
          rw [keyB_pair] at e4
          unfold KeyM.tup at e4
          refine ⟨i + 1, ?_, by omega, by omega, rfl⟩
          rw [if_pos (by simp; omega), if_pos (by omega)]
          refine bind_to (subks_get hx) ?_
          refine bind_to (subk_fit h.b hx) ?_
          simp only [SubkM.tup, fitI_intB hu.1.p]
          refine bind_to e4 ?_
          dsimp only
          rw [if_pos (by omega)]
          refine bind_to (subks_get hx) ?_
          refine bind_to (subk_fit h.b hx) ?_
          simp only [SubkM.tup]
          refine bind_to (signatures_eq _ hu.2) ?_
          dsimp only
          refine bind_to (v := (g && c.users.all userG && (c.subs.take i).all subkG) && subkG c.subs[i]) ?_ ?_
          · rw [keyB_zero]
            unfold subkG
            cases (g && c.users.all userG && (c.subs.take i).all fun u => decide u.key.may && goods u.sigs)
            · rfl
            · rw [if_pos rfl, if_and, Bool.true_and, Bool.and_comm]
          · rw [if_pos (by simp only [pktsV_length, List.length_append]; omega), pkt_one, ← pktsV_append,
              if_pos (by simp only [pktsV_length, List.length_append, List.length_cons, List.length_nil]; omega), ← pktsV_append, flat_cut _ hx, all_take _ hx, w64_succ (by omega), fitI_intB hp]
            unfold subkR
            simp only [List.append_assoc, List.cons_append, List.nil_append, Bool.and_assoc]
        · right
          rw [if_neg (by simp; omega), List.take_of_length_le (by omega)]
          cases hg2 : (g && c.users.all userG && c.subs.all subkG)
          · simp
          · simp only [Bool.not_true, Bool.false_eq_true, if_false, fitI_intB hp]
            rw [e2]
            cases c.lim <;> simp [all_id]
end Go.Proofs.YtffofdfikmpanaaGreat.A

namespace Go.Proofs.YtffofdfikmpanaaGreat.A
set_option linter.unusedVariables false
set_option linter.unusedSimpArgs false
set_option maxRecDepth 10000

/-! ### Packets alike -/

theorem st_pkt (p : PktM) : V.st? [Cc.int .i64, Cc.lst false 1] (pktV p) = some (p.1, bytesV p.2) := st_self (cs := [Cc.int .i64, Cc.lst false 1]) (y := (p.1, bytesV p.2)) (by simp [Cr.fits, Cc.fits])
theorem pkts_get {l : List PktM} {i : Nat} {x : PktM} (h : l[i]? = some x) : (pktsV l)[Int.toNat (i : Int)]? = some (pktV x) := by simp [pktsV, h]
theorem len_pkts (l : List PktM) : len (pktsV l) = (l.length : Int) := by simp [len]
theorem drop_eq_cut {α : Type} {x y : List α} {i : Nat} {a b : α} (h1 : x[i]? = some a) (h2 : y[i]? = some b) : x.drop i = y.drop i ↔ a = b ∧ x.drop (i + 1) = y.drop (i + 1) := by
  obtain ⟨hi, rfl⟩ := List.getElem?_eq_some_iff.1 h1
  obtain ⟨hj, rfl⟩ := List.getElem?_eq_some_iff.1 h2
  rw [List.drop_eq_getElem_cons hi, List.drop_eq_getElem_cons hj, List.cons.injEq]

theorem r19_same_eq (x y : List PktM) (h : x.length ≤ 1000000) : F_affiantref19_Same (pktsV x, pktsV y) = some (decide (x = y)) := by
  unfold F_affiantref19_Same
  simp only [len_pkts]
  by_cases hl : x.length = y.length
  · rw [if_neg (by simp [hl])]
    refine (congrArg (loopO _) ?_).trans (loopO_run (ι := Nat) (fun i => (pktsV x, pktsV y, false, (i : Int))) (fun i => decide (x.drop i = y.drop i)) (fun i => i ≤ x.length) (fun i => x.length - i) ?_ 0 (by omega))
    · rfl
    · intro i hi
      dsimp only
      rw [len_pkts]
      by_cases hlt : i < x.length
      · have hx : x[i]? = some x[i] := List.getElem?_eq_getElem hlt
        have hy : y[i]? = some (y[i]'(by omega)) := List.getElem?_eq_getElem (by omega)
        generalize x[i] = p at hx
        generalize (y[i]'(by omega)) = q at hy
        rw [if_pos (by simp; omega), if_pos (by omega), pkts_get hx, Option.bind_some, st_pkt, Option.bind_some]
        dsimp only
        rw [if_pos (by omega), pkts_get hy, Option.bind_some, st_pkt, Option.bind_some]
        dsimp only
        have e : (if (p.1 != q.1) = false then
                        if 0 ≤ (i : Int) then
                          (some (pktV p)).bind fun v12 =>
                          (V.st? [Cc.int .i64, Cc.lst false 1] v12).bind fun (v13, v14) =>
                            (unbytes v14).bind fun v15 =>
                              if 0 ≤ (i : Int) then
                                  (some (pktV q)).bind fun v16 =>
                                  (V.st? [Cc.int .i64, Cc.lst false 1] v16).bind fun (v17, v18) =>
                                    (unbytes v18).bind fun v19 =>
                                      some (!v15 == v19)
                                else
                                  none
                        else
                          none
                      else
                        some (true) : Option Bool) = some (!decide (p = q)) := by
          by_cases h1 : p.1 = q.1
          · rw [if_pos (by simp [h1]), if_pos (by omega), Option.bind_some, st_pkt, Option.bind_some]
            dsimp only
            rw [unbytes_bytesV, Option.bind_some, if_pos (by omega), Option.bind_some, st_pkt, Option.bind_some]
            dsimp only
            rw [unbytes_bytesV, Option.bind_some]
            refine congrArg some ?_
            obtain ⟨p1, p2⟩ := p
            obtain ⟨q1, q2⟩ := q
            dsimp only at h1 ⊢
            subst h1
            rw [Bool.eq_iff_iff]; simp
          · rw [if_neg (by simp [h1])]
            refine congrArg some ?_
            rw [decide_eq_false (fun c => h1 (by rw [c]))]; rfl
        rw [e, Option.bind_some]
        by_cases hpq : p = q
        · left
          refine ⟨i + 1, ?_, by omega, by omega, ?_⟩
          · rw [if_neg (by simp [hpq]), w64_succ (by omega)]
          · exact decide_eq_decide.2 (by rw [drop_eq_cut hx hy]; simp [hpq])
        · right
          rw [if_pos (by simp [hpq])]
          refine congrArg (fun b => some (Sum.inr b)) (decide_eq_false fun c => hpq ((drop_eq_cut hx hy).1 c).1).symm
      · right
        rw [if_neg (by simp; omega), List.drop_of_length_le (by omega), List.drop_of_length_le (by omega)]
        rfl
  · rw [if_pos (by simp; omega)]
    exact congrArg some (decide_eq_false fun c => hl (by rw [c])).symm

theorem same1_eq (p q : PktM) : F_cert_Same_1 ((p.1, bytesV p.2), q.1, bytesV q.2) = some (decide (p = q)) := by
  unfold F_cert_Same_1
  simp only [beq_iff_eq]
  by_cases h1 : p.1 = q.1
  · rw [if_pos h1, bytes_equal_eq]
    simp only [Option.bind_some]
    refine congrArg some ?_
    obtain ⟨p1, p2⟩ := p
    obtain ⟨q1, q2⟩ := q
    dsimp only at h1 ⊢
    subst h1
    rw [Bool.eq_iff_iff]; simp
  · rw [if_neg h1]
    refine congrArg some ?_
    rw [decide_eq_false (fun c => h1 (by rw [c]))]

theorem CertM.pkts_length {c : CertM} (h : c.Ok) : c.pkts.length ≤ 3000 := by
  have h1 := h.user_len c.users.length
  have h2 := h.subk_len c.subs.length
  rw [List.take_length] at h1 h2
  have h3 := h.s.1
  simp only [CertM.pkts, List.length_append, List.length_cons, sigPkts_length]; omega
def certSame (a b : CertM) : Bool := (a.fine && a.lim) && (b.fine && b.lim) && decide (a.pkts = b.pkts)
theorem ans_form (c : CertM) : c.ans = (pktsV (if c.fine && c.lim then c.pkts else []), if c.fine then if c.lim then 0 else 4 else 1) := by
  unfold CertM.ans
  cases c.fine <;> cases c.lim <;> rfl
theorem ans_code (c : CertM) : ((if c.fine = true then if c.lim = true then (0 : Int) else 4 else 1) == 0) = (c.fine && c.lim) := by cases c.fine <;> cases c.lim <;> rfl

theorem r27_same_eq (a b : CertM) (ha : a.Ok) (hb : b.Ok) : F_affiantref27_Same (a.tup, b.tup) = some (certSame a b) := by
  have e1 := r27_emit_eq a ha
  have e2 := r27_emit_eq b hb
  rw [ans_form] at e1 e2
  unfold CertM.tup at e1 e2
  unfold F_affiantref27_Same CertM.tup
  simp only [fitI_intB ha.k.p, fitI_intB hb.k.p]
  refine bind_to e1 ?_
  refine bind_to e2 ?_
  dsimp only
  rw [ans_code, ans_code]
  unfold certSame
  have hl := CertM.pkts_length ha
  cases a.fine && a.lim
  · rfl
  · cases b.fine && b.lim
    · rfl
    · simp only [if_true, all_id, r19_same_eq a.pkts b.pkts (by omega), Option.bind_some, Bool.and_self, Bool.true_and]

theorem cert_same_eq (a b : CertM) (ha : a.Ok) (hb : b.Ok) : F_cert_Same (a.tup, b.tup) = some (certSame a b) := by
  have e1 := cert_emit_eq a ha
  have e2 := cert_emit_eq b hb
  rw [ans_form] at e1 e2
  unfold CertM.tup at e1 e2
  unfold F_cert_Same CertM.tup
  simp only [fitI_intB ha.k.p, fitI_intB hb.k.p]
  refine bind_to e1 ?_
  refine bind_to e2 ?_
  dsimp only
  rw [ans_code, ans_code]
  unfold certSame
  have hl := CertM.pkts_length ha
  cases a.fine && a.lim
  · rfl
  · cases b.fine && b.lim
    · rfl
    · simp only [if_true, all_id, Bool.and_self, Bool.true_and, len_pkts]
      generalize a.pkts = x at hl
      generalize b.pkts = y
      refine bind_to (v := decide (x = y)) ?_ rfl
      by_cases hxy : x.length = y.length
      · rw [if_neg (by simp [hxy])]
        refine (congrArg (loopO _) ?_).trans (loopO_run (ι := Nat) (fun i => (pktsV y, (), false, pktsV x, (x.length : Int), (i : Int))) (fun i => decide (x.drop i = y.drop i)) (fun i => i ≤ x.length) (fun i => x.length - i) ?_ 0 (by omega))
        · rfl
        · intro i hi
          dsimp only
          by_cases hlt : i < x.length
          · have hx : x[i]? = some x[i] := List.getElem?_eq_getElem hlt
            have hy : y[i]? = some (y[i]'(by omega)) := List.getElem?_eq_getElem (by omega)
            generalize x[i] = p at hx
            generalize (y[i]'(by omega)) = q at hy
            rw [if_pos (by simp; omega), if_pos (by omega), pkts_get hx, Option.bind_some, st_pkt, Option.bind_some]
            dsimp only
            rw [if_pos (by omega), pkts_get hy, Option.bind_some, st_pkt, Option.bind_some]
            dsimp only
            rw [same1_eq, Option.bind_some]
            by_cases hpq : p = q
            · left
              refine ⟨i + 1, ?_, by omega, by omega, ?_⟩
              · rw [if_neg (by simp [hpq]), w64_succ (by omega)]
              · exact decide_eq_decide.2 (by rw [drop_eq_cut hx hy]; simp [hpq])
            · right
              rw [if_pos (by simp [hpq])]
              refine congrArg (fun b => some (Sum.inr b)) (decide_eq_false fun c => hpq ((drop_eq_cut hx hy).1 c).1).symm
          · right
            rw [if_neg (by simp; omega), List.drop_of_length_le (by omega), List.drop_of_length_le (by omega)]
            rfl
      · rw [if_pos (by simp; omega)]
        exact congrArg some (decide_eq_false fun c => hxy (by rw [c])).symm

/-! ### What may be asked about -/

def sigsOk0 (l : List SigM) : Prop := ∀ s ∈ l, s.Ok0 ∧ s.lb
/-- A certificate as it comes in. -/
structure CertM.Ok0 (c : CertM) : Prop where
  k : c.key.Ok0
  s : sigsOk0 c.sigs
  u : ∀ u ∈ c.users, sigsOk0 u.sigs
  b : ∀ u ∈ c.subs, u.key.Ok0 ∧ sigsOk0 u.sigs

theorem sigsSmall_eq (l : List SigM) (h : sigsOk0 l) : ∃ r, F_affiantref27_sigsSmall (sigsV l) = some r ∧ (r = true → sigsOk l) := by
  unfold F_affiantref27_sigsSmall
  have := loopO_ind (f := fun (v1, v2, v3) =>
    if decide (v3 < len v1) = true then
      (if (v3 == 34) = false then
          if 0 ≤ v3 then
            (v1[Int.toNat v3]?).bind fun v4 =>
            (V.st? [Cc.int .i64, Cc.int .i64, Cc.int .i64, Cc.int .i64, Cc.lst false 3, Cc.lst false 3, Cc.int .u8, Cc.int .u8, Cc.lst false 1, Cc.lst false 1] v4).bind fun (v5, v6, v7, v8, v9, v10, v11, v12, v13, v14) =>
              (F_affiantref22_Small (v5, v6, v7, v8, v9, v10, v11, v12, v13, v14) : Option Bool).bind fun (v15 : Bool) =>
                some (!v15)
          else
            none
        else
          some (true) : Option Bool).bind fun v16 =>
      if v16 = true then
          some (.inr (false))
        else
          some (.inl ((v1, v2, w64 (v3 + 1))))
    else
      some (.inr (true))) (ι := { i : Nat // i ≤ 34 }) (fun i => (sigsV l, false, (i.1 : Int))) (fun i r => r = true → l.length ≤ 34 ∧ ∀ s ∈ l.drop i.1, s.small) (fun i => 34 - i.1) ?_ ⟨0, by omega⟩
  · obtain ⟨r, h1, h2⟩ := this
    refine ⟨r, h1, fun hr => ?_⟩
    obtain ⟨h3, h4⟩ := h2 hr
    rw [List.drop_zero] at h4
    exact ⟨h3, fun s hs => ⟨(h4 s hs).ok, (h s hs).2⟩⟩
  · rintro ⟨i, hi⟩
    dsimp only
    by_cases hlt : i < l.length
    · have hx : l[i]? = some l[i] := List.getElem?_eq_getElem hlt
      have hv : (sigsV l)[Int.toNat (i : Int)]? = some l[i].v := by simp [sigsV, hx]
      rw [if_pos (by simp [len]; omega)]
      by_cases h34 : i = 34
      · right
        refine ⟨false, ?_, by simp⟩
        rw [if_neg (by simp [h34])]; rfl
      · rw [if_pos (by simp; omega), if_pos (by omega), hv, Option.bind_some, show V.st? [Cc.int .i64, Cc.int .i64, Cc.int .i64, Cc.int .i64, Cc.lst false 3, Cc.lst false 3, Cc.int .u8, Cc.int .u8, Cc.lst false 1, Cc.lst false 1] l[i].v = some l[i].tup from st_sig _, Option.bind_some]
        have e := small22_eq l[i] (h _ (get_mem hx)).1
        by_cases hs : l[i].small
        · left
          refine ⟨⟨i + 1, by omega⟩, ?_, by simp only; omega, ?_⟩
          · rw [decide_eq_true hs] at e
            refine bind_to (v := false) (bind_to e rfl) ?_
            rw [if_neg (by simp), w64_succ (by omega)]
          · intro r hr hr2
            obtain ⟨h1, h2⟩ := hr hr2
            refine ⟨h1, fun s hs2 => ?_⟩
            rw [List.drop_eq_getElem_cons hlt] at hs2
            rcases List.mem_cons.1 hs2 with rfl | hs2
            · exact hs
            · exact h2 s hs2
        · right
          refine ⟨false, ?_, by simp⟩
          rw [decide_eq_false hs] at e
          exact bind_to (v := true) (bind_to e rfl) rfl
    · right
      refine ⟨true, ?_, fun _ => ⟨by omega, fun s hs => ?_⟩⟩
      · rw [if_neg (by simp [len]; omega)]
      · rw [List.drop_of_length_le (by omega)] at hs; cases hs

theorem loopO_ex {σ R ι : Type} {f : σ → Option (σ ⊕ R)} {s : σ} {Q : R → Prop} (st : ι → σ) (res : ι → R → Prop) (m : ι → Nat) (i0 : ι) (h0 : s = st i0) (hq : ∀ r, res i0 r → Q r)
    (hs : ∀ i, (∃ j, f (st i) = some (.inl (st j)) ∧ m j < m i ∧ ∀ r, res j r → res i r) ∨ ∃ r, f (st i) = some (.inr r) ∧ res i r) : ∃ r, loopO f s = some r ∧ Q r := by
  obtain ⟨r, h1, h2⟩ := loopO_ind st res m hs i0
  exact ⟨r, by rw [h0]; exact h1, hq r h2⟩
theorem bind_inr {α R : Type} {a : Option R} {Q : R → Prop} (h : ∃ r, a = some r ∧ Q r) : ∃ r, (a.bind fun v => some (Sum.inr v : α ⊕ R)) = some (Sum.inr r) ∧ Q r := by
  obtain ⟨r, h1, h2⟩ := h
  exact ⟨r, by rw [h1]; rfl, h2⟩
theorem small27_eq (c : CertM) (h : c.Ok0) : ∃ r, F_affiantref27_Small c.tup = some r ∧ (r = true → c.Ok) := by
  have hp := h.k.p
  obtain ⟨r1, e1, g1⟩ := sigsSmall_eq c.sigs h.s
  have e0 := small23 c.key
  unfold F_affiantref27_Small CertM.tup
  simp only [fitI_intB hp]
  rw [e0, e1]
  simp only [Option.bind_some, len_users, len_subks]
  by_cases c0 : c.key.n.length ≤ 520 ∧ c.key.e.length ≤ 520
  · rw [decide_eq_true c0, if_pos (by simp)]
    cases r1
    · exact ⟨false, rfl, by simp⟩
    · rw [if_pos (by simp)]
      by_cases c1 : c.users.length ≤ 34
      · rw [if_pos (by simp; omega)]
        by_cases c2 : c.subs.length ≤ 34
        · rw [decide_eq_false (p := (c.subs.length : Int) > 34) (by omega)]
          simp only [Option.bind_some, Bool.false_eq_true, if_false]
          refine loopO_ex (ι := Int × Nat) (fun z => (c.tup, false, z.1, (z.2 : Int))) (fun z r => r = true → (∀ u ∈ c.users.drop z.2, u.name.length ≤ 600 ∧ sigsOk u.sigs) ∧ ∀ u ∈ c.subs, u.key.Ok ∧ sigsOk u.sigs) (fun z => c.users.length - z.2) (len (sigsV c.sigs), 0) rfl ?_ ?_
          · intro r h2 hr
            obtain ⟨h3, h4⟩ := h2 hr
            rw [List.drop_zero] at h3
            exact ⟨h.k.ok (by omega) (by omega), g1 rfl, c1, h3, c2, h4⟩
          · rintro ⟨n, i⟩
            unfold CertM.tup
            dsimp only
            rw [len_users]
            by_cases hlt : i < c.users.length
            · have hx : c.users[i]? = some c.users[i] := List.getElem?_eq_getElem hlt
              have hu := h.u _ (get_mem hx)
              obtain ⟨r2, e2, g2⟩ := sigsSmall_eq c.users[i].sigs hu
              rw [if_pos (by simp; omega), if_pos (by omega), users_get hx, Option.bind_some, st_user, Option.bind_some]
              dsimp only
              cases hb : (decide (w64 (n + len (sigsV c.users[i].sigs)) > 60) || decide (len c.users[i].name > 600) || !r2)
              · left
                refine ⟨(w64 (n + len (sigsV c.users[i].sigs)), i + 1), ?_, by simp only; omega, ?_⟩
                · refine bind_to (v := (decide (w64 (n + len (sigsV c.users[i].sigs)) > 60) || decide (len c.users[i].name > 600) || !r2)) ?_ ?_
                  · clear hb
                    by_cases hx6 : w64 (n + len (sigsV c.users[i].sigs)) > 60
                    · rw [if_neg (by simpa using hx6), decide_eq_true hx6]; simp
                    · rw [if_pos (by simpa using hx6), decide_eq_false hx6, if_pos (by omega), Option.bind_some, st_user, Option.bind_some]
                      dsimp only
                      by_cases hn6 : len c.users[i].name > 600
                      · rw [if_neg (by simpa using hn6), decide_eq_true hn6]; simp
                      · rw [if_pos (by simpa using hn6), decide_eq_false hn6, if_pos (by omega), Option.bind_some, st_user, Option.bind_some]
                        dsimp only
                        rw [e2, Option.bind_some]; simp
                  · rw [hb, if_neg (by simp), w64_succ (by omega), fitI_intB hp]
                · intro r hr hr2
                  obtain ⟨h1, h2⟩ := hr hr2
                  refine ⟨fun u hu2 => ?_, h2⟩
                  rw [List.drop_eq_getElem_cons hlt] at hu2
                  rcases List.mem_cons.1 hu2 with rfl | hu2
                  · simp only [Bool.or_eq_false_iff, Bool.not_eq_false', decide_eq_false_iff_not] at hb
                    obtain ⟨⟨_, hb1⟩, hb2⟩ := hb
                    exact ⟨by simp only [len] at hb1; omega, g2 hb2⟩
                  · exact h1 u hu2
              · right
                refine ⟨false, ?_, by simp⟩
                refine bind_to (v := (decide (w64 (n + len (sigsV c.users[i].sigs)) > 60) || decide (len c.users[i].name > 600) || !r2)) ?_ (by rw [hb]; rfl)
                clear hb
                by_cases hx6 : w64 (n + len (sigsV c.users[i].sigs)) > 60
                · rw [if_neg (by simpa using hx6), decide_eq_true hx6]; simp
                · rw [if_pos (by simpa using hx6), decide_eq_false hx6, if_pos (by omega), Option.bind_some, st_user, Option.bind_some]
                  dsimp only
                  by_cases hn6 : len c.users[i].name > 600
                  · rw [if_neg (by simpa using hn6), decide_eq_true hn6]; simp
                  · rw [if_pos (by simpa using hn6), decide_eq_false hn6, if_pos (by omega), Option.bind_some, st_user, Option.bind_some]
                    dsimp only
                    rw [e2, Option.bind_some]; simp
            · right
              rw [if_neg (by simp; omega)]
              simp only [fitI_intB hp]
              refine bind_inr (loopO_ex (ι := Int × Nat) (fun z => (c.tup, false, z.1, (z.2 : Int))) (fun z r => r = true → ∀ u ∈ c.subs.drop z.2, u.key.Ok ∧ sigsOk u.sigs) (fun z => c.subs.length - z.2) (n, 0) rfl ?_ ?_)
              · intro r h2 hr
                refine ⟨fun u hu => ?_, fun u hu => h2 hr u (by rw [List.drop_zero]; exact hu)⟩
                rw [List.drop_of_length_le (by omega)] at hu; cases hu
              · rintro ⟨n, i⟩
                unfold CertM.tup
                dsimp only
                rw [len_subks]
                by_cases hlt : i < c.subs.length
                · have hx : c.subs[i]? = some c.subs[i] := List.getElem?_eq_getElem hlt
                  have hu := h.b _ (get_mem hx)
                  have hfit : V.st? [Cc.int .i64, Cc.int .u32, Cc.int .i64, Cc.lst false 1, Cc.lst false 1, Cc.arr .u8 32, Cc.lst false 10] c.subs[i].v = some c.subs[i].tup := st_subk _ hu.1.p
                  obtain ⟨r2, e2, g2⟩ := sigsSmall_eq c.subs[i].sigs hu.2
                  have e3 := small23 c.subs[i].key
                  rw [if_pos (by simp; omega), if_pos (by omega), subks_get hx, Option.bind_some, hfit, Option.bind_some]
                  unfold SubkM.tup
                  dsimp only
                  cases hb : (decide (w64 (n + len (sigsV c.subs[i].sigs)) > 60) || !decide (c.subs[i].key.n.length ≤ 520 ∧ c.subs[i].key.e.length ≤ 520) || !r2)
                  · left
                    refine ⟨(w64 (n + len (sigsV c.subs[i].sigs)), i + 1), ?_, by simp only; omega, ?_⟩
                    · refine bind_to (v := (decide (w64 (n + len (sigsV c.subs[i].sigs)) > 60) || !decide (c.subs[i].key.n.length ≤ 520 ∧ c.subs[i].key.e.length ≤ 520) || !r2)) ?_ ?_
                      · clear hb
                        by_cases hx6 : w64 (n + len (sigsV c.subs[i].sigs)) > 60
                        · rw [if_neg (by simpa using hx6), decide_eq_true hx6]; simp
                        · rw [if_pos (by simpa using hx6), decide_eq_false hx6, if_pos (by omega), Option.bind_some, hfit, Option.bind_some]
                          simp only [SubkM.tup, fitI_intB hu.1.p]
                          rw [e3, Option.bind_some]
                          cases decide (c.subs[i].key.n.length ≤ 520 ∧ c.subs[i].key.e.length ≤ 520)
                          · rfl
                          · rw [if_pos (by simp), if_pos (by omega), Option.bind_some, hfit, Option.bind_some]
                            simp only [SubkM.tup]
                            rw [e2, Option.bind_some]; simp
                      · rw [hb, if_neg (by simp), w64_succ (by omega), fitI_intB hp]
                    · intro r hr hr2 u hu2
                      rw [List.drop_eq_getElem_cons hlt] at hu2
                      rcases List.mem_cons.1 hu2 with rfl | hu2
                      · simp only [Bool.or_eq_false_iff, Bool.not_eq_false', decide_eq_true_eq] at hb
                        obtain ⟨⟨_, hb1⟩, hb2⟩ := hb
                        exact ⟨hu.1.ok (by omega) (by omega), g2 hb2⟩
                      · exact hr hr2 u hu2
                  · right
                    refine ⟨false, ?_, by simp⟩
                    refine bind_to (v := (decide (w64 (n + len (sigsV c.subs[i].sigs)) > 60) || !decide (c.subs[i].key.n.length ≤ 520 ∧ c.subs[i].key.e.length ≤ 520) || !r2)) ?_ (by rw [hb]; rfl)
                    clear hb
                    by_cases hx6 : w64 (n + len (sigsV c.subs[i].sigs)) > 60
                    · rw [if_neg (by simpa using hx6), decide_eq_true hx6]; simp
                    · rw [if_pos (by simpa using hx6), decide_eq_false hx6, if_pos (by omega), Option.bind_some, hfit, Option.bind_some]
                      simp only [SubkM.tup, fitI_intB hu.1.p]
                      rw [e3, Option.bind_some]
                      cases decide (c.subs[i].key.n.length ≤ 520 ∧ c.subs[i].key.e.length ≤ 520)
                      · rfl
                      · rw [if_pos (by simp), if_pos (by omega), Option.bind_some, hfit, Option.bind_some]
                        simp only [SubkM.tup]
                        rw [e2, Option.bind_some]; simp
                · right
                  refine ⟨true, ?_, fun _ u hu => ?_⟩
                  · rw [if_neg (by simp; omega)]
                  · rw [List.drop_of_length_le (by omega)] at hu; cases hu
        · rw [decide_eq_true (p := (c.subs.length : Int) > 34) (by omega)]
          exact ⟨false, rfl, by simp⟩
      · rw [if_neg (by simp; omega)]
        exact ⟨false, rfl, by simp⟩
  · rw [decide_eq_false c0]
    exact ⟨false, rfl, by simp⟩

/-! ### The law -/

theorem alive27 : F_affiantlaw27_alive () = some true := by
  have hok : (⟨⟨4, 0, 27, [], [], zero32⟩, [], [], []⟩ : CertM).Ok := by
    refine ⟨⟨by simp, by simp, by simp, by simp, by simp, fun d hd => (by cases hd), fun d hd => (by cases hd), by simp, by simp, rfl⟩, ⟨by simp, fun s hs => (by cases hs)⟩, by simp, fun s hs => (by cases hs), by simp, fun s hs => (by cases hs)⟩
  have e := cert_emit_eq _ hok
  have hf : (⟨⟨4, 0, 27, [], [], zero32⟩, [], [], []⟩ : CertM).fine = true := by decide +kernel
  have hl : (⟨⟨4, 0, 27, [], [], zero32⟩, [], [], []⟩ : CertM).lim = true := by decide +kernel
  unfold CertM.ans at e
  rw [hf, hl] at e
  unfold F_affiantlaw27_alive
  rw [← intB_zero]
  refine bind_to e ?_
  rfl

theorem law_CertEmit (a b : CertM) (ha : a.Ok0) (hb : b.Ok0) : F_affiantlaw27_CertEmit (a.tup, b.tup) = some true := by
  obtain ⟨ra, ea, ga⟩ := small27_eq a ha
  obtain ⟨rb, eb, gb⟩ := small27_eq b hb
  have hpa := ha.k.p
  have hpb := hb.k.p
  unfold CertM.tup at ea eb
  unfold F_affiantlaw27_CertEmit CertM.tup
  simp only [fitI_intB hpa, fitI_intB hpb]
  rw [ea, eb]
  simp only [Option.bind_some]
  cases ra
  · simp only [Bool.not_false, Bool.true_eq_false, if_false, Option.bind_some, if_true]
    rw [alive27]; rfl
  · simp only [Bool.not_true, if_true]
    cases rb
    · simp only [Bool.not_false, if_true, Option.bind_some]
      rw [alive27]; rfl
    · have oa := ga rfl
      have ob := gb rfl
      simp only [Bool.not_true, Bool.false_eq_true, if_false, Option.bind_some]
      have e1 := cert_emit_eq a oa
      have e2 := r27_emit_eq a oa
      have e3 := cert_same_eq a b oa ob
      have e4 := r27_same_eq a b oa ob
      rw [ans_form] at e1 e2
      unfold CertM.tup at e1 e2 e3 e4
      refine bind_to e1 ?_
      refine bind_to e2 ?_
      dsimp only
      rw [alive27]
      simp only [Option.bind_some, if_true, all_id]
      have hl := CertM.pkts_length oa
      have hl2 : (if (a.fine && a.lim) = true then a.pkts else []).length ≤ 1000000 := by
        split
        · omega
        · simp
      rw [r19_same_eq _ _ hl2]
      simp only [decide_true, Option.bind_some, if_true, beq_self_eq_true]
      rw [e3, e4]
      simp
end Go.Proofs.YtffofdfikmpanaaGreat.A
