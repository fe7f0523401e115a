/- What the printed functions answer, in plain terms. Conditions: none. -/
import Derived.Test.YtffofdfikmpanaaLE
import Derived.Test.YtffofdfikmpanaaG1
set_option linter.unusedVariables false
set_option linter.unusedSimpArgs false
set_option linter.constructorNameAsVariable false
set_option linter.unusedSectionVars false
namespace Go.Proofs.Ytffofdfikmpanaa.A
set_option linter.unusedVariables false
set_option linter.unusedSimpArgs false
def numV (k : IntKind) (l : List Nat) : List V := l.map fun (n : Nat) => V.int k (n : Int)
@[simp] theorem numV_length (k : IntKind) (l : List Nat) : (numV k l).length = l.length := by simp [numV]
theorem numV_get (k : IntKind) (l : List Nat) (i : Nat) : (numV k l)[i]? = (l[i]?).map fun (n : Nat) => V.int k (n : Int) := by simp [numV]
theorem numV_append (k : IntKind) (l m : List Nat) : numV k (l ++ m) = numV k l ++ numV k m := by simp [numV]
theorem numV_take (k : IntKind) (l : List Nat) (n : Nat) : (numV k l).take n = numV k (l.take n) := by simp [numV, List.map_take]
theorem numV_set (k : IntKind) (l : List Nat) (i n : Nat) : (numV k l).set i (.int k (n : Int)) = numV k (l.set i n) := by simp [numV, List.map_set]
@[simp] theorem numV_nil (k : IntKind) : numV k [] = [] := rfl
theorem numV_replicate (k : IntKind) (n m : Nat) : numV k (List.replicate n m) = List.replicate n (.int k (m : Int)) := by simp [numV]
theorem numV_getD {k : IntKind} {l : List Nat} {i : Nat} (h : i < l.length) : (numV k l)[i]? = some (.int k ((l.getD i 0 : Nat) : Int)) := by
  rw [numV_get, List.getD_eq_getElem?_getD, List.getElem?_eq_getElem h]; rfl
theorem bytesV_getD {l : List UInt8} {i : Nat} (h : i < l.length) : (bytesV l)[i]? = some (byteV (l.getD i 0)) := by
  rw [bytesV_get, List.getD_eq_getElem?_getD, List.getElem?_eq_getElem h]; rfl
theorem bytesV_set (l : List UInt8) (i : Nat) (b : UInt8) : (bytesV l).set i (byteV b) = bytesV (l.set i b) := by simp [bytesV, List.map_set]
theorem bytesV_replicate (n : Nat) (b : UInt8) : bytesV (List.replicate n b) = List.replicate n (byteV b) := by simp [bytesV]
@[simp] theorem int?_int (k : IntKind) (n : Int) : V.int? k (.int k n) = some n := by simp [V.int?]
@[simp] theorem cells_int (k : IntKind) (n : Int) : (V.int k n).cells = [.int k n] := rfl
@[simp] theorem storeEl_int (k : IntKind) (n : Int) (j : Nat) (v : V) : storeEl (.int k n) j [v] = v := rfl
theorem len_bytesV (l : List UInt8) : len (bytesV l) = (l.length : Int) := by simp [len]
theorem len_numV (k : IntKind) (l : List Nat) : len (numV k l) = (l.length : Int) := by simp [len]
theorem w64_in {n : Int} (h1 : -9223372036854775808 ≤ n) (h2 : n ≤ 9223372036854775807) : w64 n = n := wrap_in h1 h2
theorem w64_nat {n : Nat} (h : n < 9223372036854775808) : w64 (n : Int) = (n : Int) := wrap_nat h
theorem wu8_nat (n : Nat) : wu8 (n : Int) = ((n % 256 : Nat) : Int) := wrap_u8 n
theorem wu32_eq (n : Int) : wu32 n = n % 4294967296 := by simp [wu32, IntKind.wrap, IntKind.bits, IntKind.signed]
theorem wu64_eq (n : Int) : wu64 n = n % 18446744073709551616 := by simp [wu64, IntKind.wrap, IntKind.bits, IntKind.signed]
theorem wu32_nat (n : Nat) : wu32 (n : Int) = ((n % 4294967296 : Nat) : Int) := by rw [wu32_eq]; omega
theorem wu64_nat (n : Nat) : wu64 (n : Int) = ((n % 18446744073709551616 : Nat) : Int) := by rw [wu64_eq]; omega
theorem wrap_uns {k : IntKind} (h : k.signed = false) (n : Nat) : k.wrap (n : Int) = ((n % 2 ^ k.bits : Nat) : Int) := by
  cases k <;> simp [IntKind.signed] at h <;> simp [IntKind.wrap, IntKind.bits, IntKind.signed]
theorem wordOr_uns {k : IntKind} (h : k.signed = false) {a b : Nat} (ha : a < 2 ^ k.bits) (hb : b < 2 ^ k.bits) : wordOr k (a : Int) (b : Int) = ((a ||| b : Nat) : Int) := by
  unfold wordOr
  simp only [BitVec.toNat_or, BitVec.ofInt_natCast, BitVec.toNat_ofNat]
  rw [Nat.mod_eq_of_lt ha, Nat.mod_eq_of_lt hb, wrap_uns h, Nat.mod_eq_of_lt (Nat.or_lt_two_pow ha hb)]
theorem wordAnd_uns {k : IntKind} (h : k.signed = false) {a b : Nat} (ha : a < 2 ^ k.bits) (hb : b < 2 ^ k.bits) : wordAnd k (a : Int) (b : Int) = ((a &&& b : Nat) : Int) := by
  unfold wordAnd
  simp only [BitVec.toNat_and, BitVec.ofInt_natCast, BitVec.toNat_ofNat]
  rw [Nat.mod_eq_of_lt ha, Nat.mod_eq_of_lt hb, wrap_uns h, Nat.mod_eq_of_lt (Nat.and_lt_two_pow _ hb)]
theorem wordShl_uns {k : IntKind} (h : k.signed = false) (a n : Nat) (hn : n ≤ k.bits) : wordShl k (a : Int) (n : Int) = ((a * 2 ^ n % 2 ^ k.bits : Nat) : Int) := by
  unfold wordShl
  rw [Int.toNat_natCast, Nat.min_eq_left hn, show (a : Int) * 2 ^ n = ((a * 2 ^ n : Nat) : Int) by simp, wrap_uns h]
theorem wordShr_any {k : IntKind} (a n : Nat) (hn : n ≤ k.bits) : wordShr k (a : Int) (n : Int) = ((a / 2 ^ n : Nat) : Int) := by
  unfold wordShr
  rw [Int.toNat_natCast, Nat.min_eq_left hn, show ((2 : Int) ^ n) = ((2 ^ n : Nat) : Int) by simp, Int.fdiv_eq_ediv_of_nonneg _ (Int.natCast_nonneg _)]
  rfl
theorem wordOr_u32 {a b : Nat} (ha : a < 4294967296) (hb : b < 4294967296) : wordOr .u32 (a : Int) (b : Int) = ((a ||| b : Nat) : Int) := wordOr_uns rfl ha hb
theorem wordOr_u64 {a b : Nat} (ha : a < 18446744073709551616) (hb : b < 18446744073709551616) : wordOr .u64 (a : Int) (b : Int) = ((a ||| b : Nat) : Int) := wordOr_uns rfl ha hb
theorem wordAnd_u8 {a b : Nat} (ha : a < 256) (hb : b < 256) : wordAnd .u8 (a : Int) (b : Int) = ((a &&& b : Nat) : Int) := wordAnd_uns rfl ha hb
theorem wordAnd_u32 {a b : Nat} (ha : a < 4294967296) (hb : b < 4294967296) : wordAnd .u32 (a : Int) (b : Int) = ((a &&& b : Nat) : Int) := wordAnd_uns rfl ha hb
theorem wordAnd_u64 {a b : Nat} (ha : a < 18446744073709551616) (hb : b < 18446744073709551616) : wordAnd .u64 (a : Int) (b : Int) = ((a &&& b : Nat) : Int) := wordAnd_uns rfl ha hb
theorem wordShl_u32 (a n : Nat) (hn : n ≤ 32) : wordShl .u32 (a : Int) (n : Int) = ((a * 2 ^ n % 4294967296 : Nat) : Int) := wordShl_uns rfl a n hn
theorem wordShr_u32 (a n : Nat) (hn : n ≤ 32) : wordShr .u32 (a : Int) (n : Int) = ((a / 2 ^ n : Nat) : Int) := wordShr_any a n hn
theorem wordShl_u64 (a n : Nat) (hn : n ≤ 64) : wordShl .u64 (a : Int) (n : Int) = ((a * 2 ^ n % 18446744073709551616 : Nat) : Int) := wordShl_uns rfl a n hn
theorem wordShr_u64 (a n : Nat) (hn : n ≤ 64) : wordShr .u64 (a : Int) (n : Int) = ((a / 2 ^ n : Nat) : Int) := wordShr_any a n hn
theorem or_high {a b m : Nat} (h1 : 2 ^ m ∣ a) (h2 : b < 2 ^ m) : a ||| b = a + b := by
  obtain ⟨c, rfl⟩ := h1
  exact (Nat.two_pow_add_eq_or_of_lt h2 c).symm
end Go.Proofs.Ytffofdfikmpanaa.A
namespace Go.Proofs.Ytffofdfikmpanaa.A
set_option linter.unusedVariables false
theorem bind_to {α β : Type} {a : Option α} {v : α} {f : α → Option β} {r : Option β} (h1 : a = some v) (h2 : f v = r) : a.bind f = r := by rw [h1]; exact h2
end Go.Proofs.Ytffofdfikmpanaa.A
namespace Go.Proofs.Ytffofdfikmpanaa.A
set_option linter.unusedVariables false
set_option linter.unusedSimpArgs false
def val (B : Nat) : List Nat → Nat
  | [] => 0
  | d :: r => d + B * val B r
def digF (B : Nat) : Nat → Nat → List Nat
  | 0, _ => []
  | f + 1, n => if n = 0 then [] else n % B :: digF B f (n / B)
def dig (B n : Nat) : List Nat := digF B n n
def bitlen (n : Nat) : Nat := if n = 0 then 0 else n.log2 + 1
theorem digF_eq {B : Nat} (hB : 2 ≤ B) : ∀ {f g n : Nat}, n ≤ f → n ≤ g → digF B f n = digF B g n
  | 0, 0, n, _, _ => rfl
  | 0, g + 1, n, h, _ => by simp [digF, show n = 0 by omega]
  | f + 1, 0, n, _, h => by simp [digF, show n = 0 by omega]
  | f + 1, g + 1, n, h1, h2 => by
    simp only [digF]
    split
    · rfl
    · rename_i hn
      have : n / B < n := Nat.div_lt_self (by omega) (by omega)
      rw [digF_eq hB (f := f) (g := g) (by omega) (by omega)]
theorem dig_zero (B : Nat) : dig B 0 = [] := rfl
theorem dig_pos {B n : Nat} (hB : 2 ≤ B) (h : 0 < n) : dig B n = n % B :: dig B (n / B) := by
  obtain ⟨m, rfl⟩ : ∃ m, n = m + 1 := ⟨n - 1, by omega⟩
  unfold dig
  have : (m + 1) / B < m + 1 := Nat.div_lt_self (by omega) (by omega)
  rw [digF, if_neg (by omega), digF_eq hB (f := m) (g := (m + 1) / B) (by omega) (Nat.le_refl _)]
theorem val_append (B : Nat) : ∀ l m : List Nat, val B (l ++ m) = val B l + B ^ l.length * val B m
  | [], m => by simp [val]
  | d :: l, m => by
    simp only [List.cons_append, val, val_append B l m, List.length_cons, Nat.pow_succ, Nat.mul_add]
    rw [Nat.mul_comm (B ^ l.length) B, Nat.mul_assoc]; omega
theorem val_lt {B : Nat} : ∀ {l : List Nat}, (∀ d ∈ l, d < B) → val B l < B ^ l.length
  | [], _ => by simp [val]
  | d :: l, h => by
    have h1 := val_lt (l := l) fun d hd => h d (by simp [hd])
    have h0 := h d (by simp)
    simp only [val, List.length_cons, Nat.pow_succ]
    have : B * (val B l + 1) ≤ B * B ^ l.length := Nat.mul_le_mul_left _ h1
    rw [Nat.mul_comm (B ^ l.length) B]; rw [Nat.mul_add] at this; omega
theorem val_dig {B : Nat} (hB : 2 ≤ B) (n : Nat) : val B (dig B n) = n := by
  induction n using Nat.strongRecOn with
  | _ n ih =>
    by_cases h : n = 0
    · subst h; rfl
    · rw [dig_pos hB (by omega)]
      simp only [val]
      rw [ih _ (Nat.div_lt_self (by omega) (by omega))]
      exact Nat.mod_add_div n B
theorem dig_lt {B : Nat} (hB : 2 ≤ B) (n : Nat) : ∀ d ∈ dig B n, d < B := by
  induction n using Nat.strongRecOn with
  | _ n ih =>
    by_cases h : n = 0
    · subst h; simp [dig_zero]
    · rw [dig_pos hB (by omega)]
      intro d hd
      rcases List.mem_cons.1 hd with rfl | hd
      · exact Nat.mod_lt _ (by omega)
      · exact ih _ (Nat.div_lt_self (by omega) (by omega)) d hd
theorem dig_last {B : Nat} (hB : 2 ≤ B) (n : Nat) : (dig B n).getLast? ≠ some 0 := by
  induction n using Nat.strongRecOn with
  | _ n ih =>
    by_cases h : n = 0
    · subst h; simp [dig_zero]
    · rw [dig_pos hB (by omega)]
      have := ih _ (Nat.div_lt_self (n := n) (k := B) (by omega) (by omega))
      cases h2 : dig B (n / B) with
      | nil =>
        have h3 : n / B = 0 := by rw [← val_dig hB (n / B), h2]; rfl
        have : n % B = n := Nat.mod_eq_of_lt ((Nat.div_eq_zero_iff.1 h3).resolve_left (by omega))
        simp; omega
      | cons x r => rw [h2] at this; simpa using this
theorem dig_val {B : Nat} (hB : 2 ≤ B) : ∀ {l : List Nat}, (∀ d ∈ l, d < B) → l.getLast? ≠ some 0 → dig B (val B l) = l
  | [], _, _ => rfl
  | d :: l, h, hl => by
    have hd := h d (by simp)
    have ih := dig_val hB (l := l) (fun d hd => h d (by simp [hd])) (by
      cases l with
      | nil => simp
      | cons x r => simpa using hl)
    have hpos : 0 < val B (d :: l) := by
      simp only [val]
      cases l with
      | nil => simp at hl; simp [val]; omega
      | cons x r =>
        rcases Nat.eq_zero_or_pos (val B (x :: r)) with h0 | h0
        · rw [h0] at ih; cases ih
        · have := Nat.mul_pos (show 0 < B by omega) h0; omega
    rw [dig_pos hB hpos]
    simp only [val]
    rw [Nat.add_mul_mod_self_left, Nat.mod_eq_of_lt hd, Nat.add_mul_div_left _ _ (by omega), Nat.div_eq_of_lt hd, Nat.zero_add, ih]
theorem val_zeros (B : Nat) : ∀ {l : List Nat}, (∀ d ∈ l, d = 0) → val B l = 0
  | [], _ => rfl
  | d :: l, h => by simp only [val]; rw [h d (by simp), val_zeros B fun d hd => h d (by simp [hd])]; simp
theorem dig_take {B : Nat} (hB : 2 ≤ B) {l : List Nat} {n : Nat} (hl : ∀ d ∈ l, d < B) (hn : n ≤ l.length) (hz : ∀ i, n ≤ i → l.getD i 0 = 0) (ht : n = 0 ∨ l.getD (n - 1) 0 ≠ 0) : dig B (val B l) = l.take n := by
  have h1 : val B l = val B (l.take n) := by
    conv => lhs; rw [← List.take_append_drop n l]
    rw [val_append, val_zeros B (l := l.drop n), Nat.mul_zero, Nat.add_zero]
    intro d hd
    obtain ⟨i, hi⟩ := List.mem_iff_getElem?.1 hd
    rw [List.getElem?_drop] at hi
    have := hz (n + i) (by omega)
    rw [List.getD_eq_getElem?_getD, hi] at this
    simpa using this
  rw [h1]
  refine dig_val hB (fun d hd => hl d (List.mem_of_mem_take hd)) ?_
  rcases ht with rfl | ht
  · simp
  · rw [List.getLast?_eq_getElem?, List.length_take, Nat.min_eq_left hn]
    intro h
    rw [List.getElem?_take] at h
    split at h
    · rw [List.getD_eq_getElem?_getD, h] at ht; simp at ht
    · cases h
theorem val_digit {B : Nat} (hB : 0 < B) : ∀ {l : List Nat} {k : Nat}, (∀ d ∈ l, d < B) → val B l / B ^ k % B = l.getD k 0
  | [], k, _ => by simp [val]
  | d :: l, 0, h => by simp [val, Nat.add_mul_mod_self_left, Nat.mod_eq_of_lt (h d (by simp))]
  | d :: l, k + 1, h => by
    simp only [val, List.getD_cons_succ]
    rw [Nat.pow_succ, Nat.mul_comm (B ^ k) B, ← Nat.div_div_eq_div_mul, Nat.add_mul_div_left _ _ hB, Nat.div_eq_of_lt (h d (by simp)), Nat.zero_add]
    exact val_digit hB fun d hd => h d (by simp [hd])
theorem bitlen_le {n k : Nat} : bitlen n ≤ k ↔ n < 2 ^ k := by
  unfold bitlen
  split
  · rename_i h; subst h; simp [Nat.two_pow_pos]
  · rename_i h
    rw [← Nat.log2_lt h]; omega
theorem bitlen_eq {n k : Nat} (h1 : 2 ^ k ≤ n) (h2 : n < 2 ^ (k + 1)) : bitlen n = k + 1 := by
  have h3 := bitlen_le.2 h2
  have h4 : ¬ bitlen n ≤ k := fun h => by have := bitlen_le.1 h; omega
  omega
theorem lt_bitlen (n : Nat) : n < 2 ^ bitlen n := bitlen_le.1 (Nat.le_refl _)
theorem bitlen_ge {n : Nat} (h : n ≠ 0) : 2 ^ (bitlen n - 1) ≤ n := by
  rcases Nat.lt_or_ge n (2 ^ (bitlen n - 1)) with h1 | h1
  · have := bitlen_le.2 h1
    have : bitlen n ≠ 0 := by unfold bitlen; rw [if_neg h]; omega
    omega
  · exact h1
theorem bitlen_pos {n : Nat} (h : n ≠ 0) : 0 < bitlen n := by unfold bitlen; rw [if_neg h]; omega
theorem bitlen_top {k w v m : Nat} (hw : w ≠ 0) (hv : v < 2 ^ m) : bitlen (v + 2 ^ m * w) = m + bitlen w := by
  obtain ⟨j, hj⟩ : ∃ j, bitlen w = j + 1 := ⟨bitlen w - 1, by have := bitlen_pos hw; omega⟩
  rw [hj]
  have h1 := bitlen_ge hw
  have h2 := lt_bitlen w
  rw [hj] at h1 h2
  simp only [Nat.add_sub_cancel] at h1
  rw [← Nat.add_assoc]
  refine bitlen_eq ?_ ?_
  · rw [Nat.pow_add]
    have := Nat.mul_le_mul_left (2 ^ m) h1
    omega
  · rw [show m + j + 1 = m + (j + 1) by omega, Nat.pow_add]
    have : 2 ^ m * (w + 1) ≤ 2 ^ m * 2 ^ (j + 1) := Nat.mul_le_mul_left _ h2
    rw [Nat.mul_add] at this; omega
def beN : Nat → Nat → List UInt8
  | 0, _ => []
  | n + 1, v => UInt8.ofNat (v / 256 ^ n) :: beN n v
def beval (l : List UInt8) : Nat := l.foldl (fun a b => a * 256 + b.toNat) 0
def be (v : Nat) : List UInt8 := beN ((bitlen v + 7) / 8) v
theorem beN_length (n v : Nat) : (beN n v).length = n := by induction n <;> simp_all [beN]
theorem beN_get {n v i : Nat} (h : i < n) : (beN n v)[i]? = some (UInt8.ofNat (v / 256 ^ (n - 1 - i))) := by
  induction n generalizing i with
  | zero => omega
  | succ n ih =>
    simp only [beN]
    cases i with
    | zero => simp
    | succ i => rw [List.getElem?_cons_succ, ih (by omega)]; congr 4; omega
theorem beval_foldl (l : List UInt8) (a : Nat) : l.foldl (fun a b => a * 256 + b.toNat) a = a * 256 ^ l.length + beval l := by
  unfold beval
  induction l generalizing a with
  | nil => simp
  | cons b l ih =>
    simp only [List.foldl_cons, List.length_cons]
    rw [ih, ih (0 * 256 + b.toNat)]
    rw [Nat.pow_succ, Nat.add_mul, Nat.zero_mul, Nat.zero_add, Nat.mul_assoc, Nat.mul_comm 256]; omega
theorem beval_append (l m : List UInt8) : beval (l ++ m) = beval l * 256 ^ m.length + beval m := by
  conv => lhs; unfold beval
  rw [List.foldl_append, beval_foldl]; rfl
theorem beval_nil : beval [] = 0 := rfl
theorem beval_cons (b : UInt8) (l : List UInt8) : beval (b :: l) = b.toNat * 256 ^ l.length + beval l := by
  rw [show b :: l = [b] ++ l from rfl, beval_append]; simp [beval]
theorem beval_lt (l : List UInt8) : beval l < 256 ^ l.length := by
  induction l with
  | nil => simp [beval]
  | cons b l ih =>
    rw [beval_cons, List.length_cons, Nat.pow_succ]
    have := u8_lt b
    have : (b.toNat + 1) * 256 ^ l.length ≤ 256 * 256 ^ l.length := Nat.mul_le_mul_right _ (by omega)
    rw [Nat.add_mul] at this; omega
end Go.Proofs.Ytffofdfikmpanaa.A
namespace Go.Proofs.Ytffofdfikmpanaa.A
set_option linter.unusedVariables false
set_option linter.unusedSimpArgs false
set_option maxRecDepth 10000
abbrev W32 : Nat := 4294967296
def isW (l : List Nat) : Prop := ∀ d ∈ l, d < W32
theorem isW.getD {l : List Nat} (h : isW l) (i : Nat) : l.getD i 0 < W32 := by
  rw [List.getD_eq_getElem?_getD]
  cases hi : l[i]? with
  | none => exact (by decide)
  | some d => exact h d (List.mem_of_getElem? hi)
theorem isW_dig (n : Nat) : isW (dig W32 n) := dig_lt (by decide) n
theorem W32_pow : W32 = 2 ^ 32 := by decide
theorem nat_trim_eq (l : List Nat) (hl : isW l) (hn : l.length ≤ 1000000000) : F_nat_trim (numV .u32 l) = some (numV .u32 (dig W32 (val W32 l))) := by
  unfold F_nat_trim
  simp only [decide_eq_true_eq, len_numV]
  refine loopO_run (ι := Nat) (fun n => (numV .u32 l, (n : Int))) (fun _ => numV .u32 (dig W32 (val W32 l))) (fun n => n ≤ l.length ∧ ∀ i, n ≤ i → l.getD i 0 = 0) (fun n => n) ?_ l.length
    ⟨Nat.le_refl _, fun i hi => by rw [List.getD_eq_getElem?_getD, List.getElem?_eq_none hi]; rfl⟩
  rintro n ⟨h1, h2⟩
  dsimp only
  by_cases h0 : n = 0 ∨ l.getD (n - 1) 0 ≠ 0
  · right
    have hc : (if (n : Int) > 0 then if 0 ≤ w64 ((n : Int) - 1) then ((numV .u32 l)[Int.toNat (w64 ((n : Int) - 1))]?).bind fun v3 => (V.int? .u32 v3).bind fun v4 => some (v4 == 0) else none else some false : Option Bool) = some false := by
      rcases h0 with rfl | h0
      · rfl
      · have : 0 < n := by
          rcases Nat.eq_zero_or_pos n with rfl | h
          · exact absurd (h2 0 (Nat.le_refl _)) h0
          · exact h
        rw [if_pos (by omega), w64_in (by omega) (by omega), if_pos (by omega), show ((n : Int) - 1).toNat = n - 1 by omega, numV_getD (by omega)]
        simp only [Option.bind_some, int?_int]
        rw [show (((l.getD (n - 1) 0 : Nat) : Int) == 0) = false by simp only [beq_eq_false_iff_ne]; omega]
    rw [hc]
    simp only [Option.bind_some, Bool.false_eq_true, if_false]
    rw [if_pos (by omega), if_pos (by omega)]
    simp only [numV_length, Int.toNat_natCast, true_and]
    rw [if_pos (by omega)]
    simp only [Option.bind_some, List.drop_zero]
    rw [dig_take (by decide) hl h1 h2 h0, numV_take]
  · left
    have h3 : 0 < n := by omega
    have h4 : l.getD (n - 1) 0 = 0 := by omega
    refine ⟨n - 1, ?_, ⟨by omega, fun i hi => ?_⟩, by omega, rfl⟩
    · rw [if_pos (by omega), w64_in (by omega) (by omega), if_pos (by omega), show ((n : Int) - 1).toNat = n - 1 by omega, numV_getD (by omega)]
      simp only [Option.bind_some, int?_int, h4]
      rw [if_pos (by rfl), show ((n : Int) - 1) = ((n - 1 : Nat) : Int) by omega]
    · by_cases hi2 : i = n - 1
      · rw [hi2, h4]
      · exact h2 i (by omega)
theorem nat_word_eq (l : List Nat) (i : Nat) : F_nat_word (numV .u32 l, (i : Int)) = some ((l.getD i 0 : Nat) : Int) := by
  unfold F_nat_word
  simp only [decide_eq_true_eq, len_numV]
  by_cases h : i < l.length
  · rw [if_pos (by omega), if_pos (by omega), Int.toNat_natCast, numV_getD h]; simp
  · rw [if_neg (by omega), List.getD_eq_getElem?_getD, List.getElem?_eq_none (by omega)]; rfl
theorem tab_use {T : List UInt8} {n : Nat} (h : n < 256) (hT : (List.range 256).all (fun n => T[n]? == some (UInt8.ofNat (bitlen n))) = true) : T[n]? = some (UInt8.ofNat (bitlen n)) := by
  have := List.all_eq_true.1 hT n (List.mem_range.2 h)
  simpa using this
theorem bitlen_shift {n k : Nat} (h : 2 ^ k ≤ n) : bitlen n = k + bitlen (n / 2 ^ k) := by
  have h1 : n / 2 ^ k ≠ 0 := by
    have := Nat.div_pos h (Nat.two_pow_pos k)
    omega
  have h2 := bitlen_top (k := k) (w := n / 2 ^ k) (v := n % 2 ^ k) (m := k) h1 (Nat.mod_lt _ (Nat.two_pow_pos k))
  rw [Nat.mod_add_div] at h2
  exact h2
theorem len32_eq (n : Nat) (h : n < W32) : F_math_bits_Len32 (n : Int) = some ((bitlen n : Nat) : Int) := by
  have last : ∀ (m c : Nat), m < 256 → c ≤ 100 → (if 0 ≤ wu8 (m : Int) then some (w64 ((c : Int) + w64 ((bitlen m : Nat) : Int))) else none : Option Int) = some ((c + bitlen m : Nat) : Int) := by
    intro m c hm hc
    have hb : bitlen m ≤ 8 := bitlen_le.2 hm
    rw [wu8_nat, if_pos (by omega), w64_nat (n := bitlen m) (by omega), w64_in (by omega) (by omega)]
    rfl
  have tab : ∀ (m : Nat), m < 256 → Int.toNat (wu8 (m : Int)) = m := fun m hm => by rw [wu8_nat, Int.toNat_natCast]; omega
  have ofn : ∀ m, m < 256 → (UInt8.ofNat (bitlen m)).toNat = bitlen m := fun m hm => by
    have hb : bitlen m ≤ 8 := bitlen_le.2 hm
    rw [UInt8.toNat_ofNat']; omega
  have h' : n < 4294967296 := h
  unfold F_math_bits_Len32
  simp only [decide_eq_true_eq]
  have hsh : ∀ m k : Nat, k ≤ 32 → wordShr .u32 (m : Int) (k : Int) = ((m / 2 ^ k : Nat) : Int) := fun m k hk => wordShr_any m k hk
  by_cases h16 : 65536 ≤ n
  · rw [if_pos (by omega), show (16 : Int) = ((16 : Nat) : Int) from rfl, hsh n 16 (by omega)]
    simp only [Option.bind_some]
    by_cases h8 : 256 ≤ n / 2 ^ 16
    · rw [if_pos (by omega), show (8 : Int) = ((8 : Nat) : Int) from rfl, hsh _ 8 (by omega), w64_in (by omega) (by omega)]
      simp only [Option.bind_some]
      have hm : n / 2 ^ 16 / 2 ^ 8 < 256 := by omega
      rw [tab _ hm, tab_use hm (by decide +kernel)]
      simp only [Option.bind_some, ofn _ hm]
      rw [show ((16 : Nat) : Int) + ((8 : Nat) : Int) = ((24 : Nat) : Int) from rfl, last _ 24 hm (by omega), bitlen_shift (n := n) (k := 16) (by omega), bitlen_shift (n := n / 2 ^ 16) (k := 8) (by omega), ← Nat.add_assoc]
    · rw [if_neg (by omega)]
      simp only [Option.bind_some]
      have hm : n / 2 ^ 16 < 256 := by omega
      rw [tab _ hm, tab_use hm (by decide +kernel)]
      simp only [Option.bind_some, ofn _ hm]
      rw [last _ 16 hm (by omega), bitlen_shift (n := n) (k := 16) (by omega)]
  · rw [if_neg (by omega)]
    simp only [Option.bind_some]
    by_cases h8 : 256 ≤ n
    · rw [if_pos (by omega), show (8 : Int) = ((8 : Nat) : Int) from rfl, hsh _ 8 (by omega), w64_in (by omega) (by omega)]
      simp only [Option.bind_some]
      have hm : n / 2 ^ 8 < 256 := by omega
      rw [tab _ hm, tab_use hm (by decide +kernel)]
      simp only [Option.bind_some, ofn _ hm]
      rw [show (0 : Int) + ((8 : Nat) : Int) = ((8 : Nat) : Int) from rfl, last _ 8 hm (by omega), bitlen_shift (n := n) (k := 8) (by omega)]
    · rw [if_neg (by omega)]
      simp only [Option.bind_some]
      have hm : n < 256 := by omega
      rw [tab _ hm, tab_use hm (by decide +kernel)]
      simp only [Option.bind_some, ofn _ hm]
      have := last n 0 hm (by omega)
      rw [Nat.zero_add] at this
      exact this
def downL (k : IntKind) (l : List Nat) (n : Nat) : List (List V) := (List.range n).reverse.map fun (i : Nat) => [V.int .i64 (i : Int), V.int k ((l.getD i 0 : Nat) : Int)]
theorem downL_succ (k : IntKind) (l : List Nat) (n : Nat) : downL k l (n + 1) = [V.int .i64 (n : Int), V.int k ((l.getD n 0 : Nat) : Int)] :: downL k l n := by simp [downL, List.range_succ]
theorem downItems_eq (k : IntKind) (l : List Nat) (hl : l.length ≤ 4611686018427387904) : downItems k (numV k l) = some (downL k l l.length) := by
  unfold downItems downL
  rw [if_pos (by simp [numV, V.isInt]; exact hl), numV_length]
  congr 1
  refine List.map_congr_left fun i hi => ?_
  rw [numV_getD (by simpa using hi)]; rfl
theorem nat_bits_eq (l : List Nat) (hl : isW l) (hn : l.length ≤ 1000000) : F_nat_Bits (numV .u32 l) = some ((bitlen (val W32 l) : Nat) : Int) := by
  unfold F_nat_Bits F_nat_down
  simp only [Option.bind_some]
  rw [downItems_eq _ _ (by omega)]
  simp only [Option.bind_some]
  refine loopO_run (ι := Nat) (fun n => (downL .u32 l n, 0, numV .u32 l)) (fun n => ((bitlen (val W32 (l.take n)) : Nat) : Int)) (fun n => n ≤ l.length) (fun n => n) ?_ l.length (Nat.le_refl _) |>.trans (by rw [List.take_length])
  intro n hnl
  dsimp only
  cases n with
  | zero => right; rfl
  | succ n =>
    simp only [downL_succ, List.getElem?_cons_zero, List.getElem?_cons_succ, Option.bind_some, int?_int, List.length_cons, List.length_nil]
    rw [if_pos trivial]
    have htake : l.take (n + 1) = l.take n ++ [l.getD n 0] := by
      rw [List.take_add_one, List.getD_eq_getElem?_getD, List.getElem?_eq_getElem (by omega)]; rfl
    by_cases hz : l.getD n 0 = 0
    · left
      refine ⟨n, ?_, by omega, by omega, ?_⟩
      · rw [hz, if_neg (by decide)]
      · rw [htake, val_append, hz]; simp [val]
    · right
      rw [if_pos (by simp only [bne_iff_ne]; omega), len32_eq _ (hl.getD n)]
      have hb : bitlen (l.getD n 0) ≤ 32 := bitlen_le.2 (hl.getD n)
      simp only [Option.bind_some]
      rw [w64_in (n := 32 * (n : Int)) (by omega) (by omega), w64_in (by omega) (by omega), htake, val_append]
      have hlt : val W32 (l.take n) < 2 ^ (32 * n) := by
        have := val_lt (B := W32) (l := l.take n) fun d hd => hl d (List.mem_of_mem_take hd)
        rw [List.length_take, Nat.min_eq_left (by omega), W32_pow, ← Nat.pow_mul] at this
        rw [W32_pow]; exact this
      rw [List.length_take, Nat.min_eq_left (by omega)]
      have : val W32 [l.getD n 0] = l.getD n 0 := by simp [val]
      rw [this, show W32 ^ n = 2 ^ (32 * n) by rw [W32_pow, ← Nat.pow_mul], bitlen_top (k := 0) hz hlt]
      simp
end Go.Proofs.Ytffofdfikmpanaa.A
namespace Go.Proofs.Ytffofdfikmpanaa.A
set_option linter.unusedVariables false
set_option linter.unusedSimpArgs false
set_option maxRecDepth 10000
theorem set_repl {α : Type} (a b : α) (k : Nat) (m : List α) : (List.replicate (k + 1) a ++ m).set k b = List.replicate k a ++ b :: m := by
  rw [List.replicate_succ', List.append_assoc, List.set_append]
  simp
theorem byteV_zero : byteV 0 = .int .u8 0 := rfl
theorem byteV_of (n : Nat) : V.int .u8 ((n % 256 : Nat) : Int) = byteV (UInt8.ofNat n) := by
  unfold byteV; rw [UInt8.toNat_ofNat']
@[simp] theorem storeEl_byte (b : UInt8) (j : Nat) (v : V) : storeEl (byteV b) j [v] = v := rfl
theorem i64_tdiv {n k : Nat} : Int.tdiv (n : Int) (k : Int) = ((n / k : Nat) : Int) := rfl
theorem i64_tmod {n k : Nat} : Int.tmod (n : Int) (k : Int) = ((n % k : Nat) : Int) := rfl
theorem byte_of_word {l : List Nat} (hl : isW l) (i : Nat) : l.getD (i / 4) 0 / 2 ^ (8 * (i % 4)) % 256 = val W32 l / 256 ^ i % 256 := by
  rw [← val_digit (by decide) hl]
  generalize val W32 l = v
  have h1 : v / 256 ^ i = v / W32 ^ (i / 4) / 256 ^ (i % 4) := by
    conv => lhs; rw [← Nat.div_add_mod i 4]
    rw [Nat.pow_add, ← Nat.div_div_eq_div_mul, Nat.pow_mul]
  rw [h1]
  generalize v / W32 ^ (i / 4) = x
  have hc : i % 4 = 0 ∨ i % 4 = 1 ∨ i % 4 = 2 ∨ i % 4 = 3 := by omega
  show x % 4294967296 / 2 ^ (8 * (i % 4)) % 256 = x / 256 ^ (i % 4) % 256
  rcases hc with h | h | h | h <;> rw [h] <;> simp only [Nat.reducePow, Nat.reduceMul] <;> omega
theorem nat_lay_eq (l : List Nat) (n : Nat) (hl : isW l) (hn : n ≤ 2147483648) : F_nat_lay (numV .u32 l, (n : Int)) = some (bytesV (beN n (val W32 l))) := by
  unfold F_nat_lay
  simp only [decide_eq_true_eq]
  rw [if_pos (by omega)]
  have hlen : len (rep (Int.toNat (n : Int)) (V.int .u8 0)) = (n : Int) := by simp [len, rep]
  rw [hlen]
  refine loopO_run (ι := Nat) (fun i => (numV .u32 l, (n : Int), bytesV (List.replicate (n - i) 0 ++ beN i (val W32 l)), (n : Int), (i : Int))) (fun _ => bytesV (beN n (val W32 l))) (fun i => i ≤ n) (fun i => n - i) ?_ 0 (Nat.zero_le _)
    |> (fun h => by rw [← h]; simp only [beN, List.append_nil, Nat.sub_zero, bytesV_replicate, byteV_zero, rep, Int.toNat_natCast]; rfl)
  intro i hi
  dsimp only
  by_cases h : i < n
  · left
    refine ⟨i + 1, ?_, h, by omega, rfl⟩
    rw [if_pos (by omega), show (4 : Int) = ((4 : Nat) : Int) from rfl, i64_tdiv, i64_tmod, w64_nat (n := i / 4) (by omega), nat_word_eq]
    simp only [Option.bind_some]
    have e8 : w64 (8 * ((i % 4 : Nat) : Int)) = ((8 * (i % 4) : Nat) : Int) := w64_in (by omega) (by omega)
    have e1 : w64 (w64 ((n : Int) - 1) - (i : Int)) = ((n - 1 - i : Nat) : Int) := by rw [w64_in (n := (n : Int) - 1) (by omega) (by omega), w64_in (by omega) (by omega)]; omega
    rw [e8, e1, if_neg (by omega)]
    simp only [len_bytesV, List.length_append, List.length_replicate, beN_length, Int.toNat_natCast, Nat.zero_add]
    rw [if_pos (by omega), bytesV_getD (by simp [beN_length]; omega)]
    simp only [Option.bind_some, cells_int, storeEl_byte]
    rw [wordShr_any _ _ (by simp only [IntKind.bits]; omega), wu8_nat, byte_of_word hl, byteV_of, bytesV_set, show n - i = (n - 1 - i) + 1 by omega, set_repl]
    have e2 : w64 ((i : Int) + 1) = ((i + 1 : Nat) : Int) := w64_in (by omega) (by omega)
    rw [e2, show n - (i + 1) = n - 1 - i by omega]; rfl
  · right
    rw [if_neg (by omega), all_eq, show n - i = 0 by omega, show i = n by omega]
    rfl
theorem nat_long_eq (l : List Nat) (hl : isW l) (hn : l.length ≤ 1000000) : F_nat_long (numV .u32 l) = some (((bitlen (val W32 l) + 7) / 8 : Nat) : Int) := by
  unfold F_nat_long
  rw [nat_bits_eq l hl hn]
  have hb : bitlen (val W32 l) ≤ 32 * l.length := by
    refine bitlen_le.2 ?_
    have := val_lt hl
    rwa [W32_pow, ← Nat.pow_mul, ← W32_pow] at this
  simp only [Option.bind_some]
  rw [w64_in (n := ((bitlen (val W32 l) : Nat) : Int) + 7) (by omega) (by omega), show ((bitlen (val W32 l) : Nat) : Int) + 7 = ((bitlen (val W32 l) + 7 : Nat) : Int) by omega, show (8 : Int) = ((8 : Nat) : Int) from rfl, i64_tdiv, w64_nat (by omega)]
theorem bitlen_val_le {l : List Nat} (hl : isW l) : bitlen (val W32 l) ≤ 32 * l.length := by
  refine bitlen_le.2 ?_
  have := val_lt hl
  rwa [W32_pow, ← Nat.pow_mul, ← W32_pow] at this
theorem nat_bytes_eq (l : List Nat) (hl : isW l) (hn : l.length ≤ 1000000) : F_nat_Bytes (numV .u32 l) = some (bytesV (be (val W32 l))) := by
  unfold F_nat_Bytes
  have := bitlen_val_le hl
  rw [nat_long_eq l hl hn]
  simp only [Option.bind_some]
  rw [nat_lay_eq l _ hl (by omega)]; rfl
def wordsN (n v : Nat) : List Nat := (List.range n).map fun q => v / W32 ^ q % W32
theorem wordsN_length (n v : Nat) : (wordsN n v).length = n := by simp [wordsN]
theorem wordsN_get {n v q : Nat} (h : q < n) : (wordsN n v).getD q 0 = v / W32 ^ q % W32 := by
  rw [List.getD_eq_getElem?_getD]; simp [wordsN, h]
theorem wordsN_isW (n v : Nat) : isW (wordsN n v) := fun d hd => by
  simp only [wordsN, List.mem_map] at hd
  obtain ⟨q, _, rfl⟩ := hd
  exact Nat.mod_lt _ (by decide)
theorem val_words (B n v : Nat) : val B ((List.range n).map fun q => v / B ^ q % B) = v % B ^ n := by
  induction n generalizing v with
  | zero => simp [val, Nat.mod_one]
  | succ n ih =>
    rw [List.range_succ_eq_map, List.map_cons, List.map_map]
    simp only [val, Nat.pow_zero, Nat.div_one]
    have : (List.range n).map ((fun q => v / B ^ q % B) ∘ Nat.succ) = (List.range n).map fun q => v / B / B ^ q % B := List.map_congr_left fun q _ => by
      simp only [Function.comp, Nat.succ_eq_add_one, Nat.pow_succ]
      rw [Nat.mul_comm (B ^ q) B, ← Nat.div_div_eq_div_mul]
    rw [this, ih, Nat.pow_succ, Nat.mul_comm (B ^ n), Nat.mod_mul]
theorem val_wordsN (n v : Nat) : val W32 (wordsN n v) = v % W32 ^ n := val_words W32 n v
theorem wordsN_set {n v v' q : Nat} (h : q < n) (h1 : ∀ j, j ≠ q → v' / W32 ^ j % W32 = v / W32 ^ j % W32) : (wordsN n v).set q (v' / W32 ^ q % W32) = wordsN n v' := by
  refine List.ext_getElem? fun j => ?_
  by_cases hj : j = q
  · subst hj
    rw [List.getElem?_set_self (by rw [wordsN_length]; exact h)]
    simp [wordsN, h]
  · rw [List.getElem?_set_ne (Ne.symm hj)]
    by_cases hjn : j < n
    · simp [wordsN, hjn, h1 j hj]
    · rw [List.getElem?_eq_none (by rw [wordsN_length]; omega), List.getElem?_eq_none (by rw [wordsN_length]; omega)]
theorem words_add (v x k : Nat) (hv : 256 ^ (k + 1) ∣ v) (hx : x < 256) : (∀ j, j ≠ k / 4 → (v + x * 256 ^ k) / W32 ^ j % W32 = v / W32 ^ j % W32) ∧
    (v / W32 ^ (k / 4) % W32 ||| x * 2 ^ (8 * (k % 4)) % 2 ^ 32) = (v + x * 256 ^ k) / W32 ^ (k / 4) % W32 := by
  obtain ⟨c, rfl⟩ := hv
  obtain ⟨q, r, hr, rfl⟩ : ∃ q r, r < 4 ∧ k = 4 * q + r := ⟨k / 4, k % 4, Nat.mod_lt _ (by decide), (Nat.div_add_mod k 4).symm⟩
  have hq : (4 * q + r) / 4 = q := by omega
  have hr4 : (4 * q + r) % 4 = r := by omega
  rw [hq, hr4]
  have hp : ∀ m, (256 : Nat) ^ (4 * q + m) = W32 ^ q * 256 ^ m := fun m => by rw [Nat.pow_add, Nat.pow_mul]
  rw [show 4 * q + r + 1 = 4 * q + (r + 1) by omega, hp, hp]
  have e1 : W32 ^ q * 256 ^ (r + 1) * c + x * (W32 ^ q * 256 ^ r) = W32 ^ q * (256 ^ (r + 1) * c + x * 256 ^ r) := by rw [Nat.mul_add]; congr 1 <;> ac_rfl
  have e2 : W32 ^ q * 256 ^ (r + 1) * c = W32 ^ q * (256 ^ (r + 1) * c) := by ac_rfl
  rw [e1, e2]
  have hpos : ∀ j, 0 < W32 ^ j := fun j => Nat.pow_pos (by decide)
  have hsmall : x * 256 ^ r < W32 := by
    have : r = 0 ∨ r = 1 ∨ r = 2 ∨ r = 3 := by omega
    show x * 256 ^ r < 4294967296
    rcases this with rfl | rfl | rfl | rfl <;> simp only [Nat.reducePow] <;> omega
  have hsum : ∀ A, 256 ^ (r + 1) ∣ A → A / W32 = (A + x * 256 ^ r) / W32 ∧ (A % W32 ||| x * 256 ^ r) = (A + x * 256 ^ r) % W32 := by
    rintro A ⟨d, rfl⟩
    have hlt : x * 256 ^ r < 256 ^ (r + 1) := by rw [Nat.pow_succ, Nat.mul_comm (256 ^ r)]; exact Nat.mul_lt_mul_of_pos_right hx (Nat.pow_pos (by decide))
    have hdvd : ∃ e, W32 = 256 ^ (r + 1) * e := by
      have : r = 0 ∨ r = 1 ∨ r = 2 ∨ r = 3 := by omega
      rcases this with rfl | rfl | rfl | rfl
      · exact ⟨16777216, by decide⟩
      · exact ⟨65536, by decide⟩
      · exact ⟨256, by decide⟩
      · exact ⟨1, by decide⟩
    obtain ⟨e, he⟩ := hdvd
    have hB : 0 < 256 ^ (r + 1) := Nat.pow_pos (by decide)
    have hm : 256 ^ (r + 1) * d % W32 = 256 ^ (r + 1) * (d % e) := by rw [he, Nat.mul_mod_mul_left]
    have hepos : 0 < e := by rcases Nat.eq_zero_or_pos e with h | h; (subst h; rw [Nat.mul_zero] at he; exact absurd he (by decide)); exact h
    have hle : 256 ^ (r + 1) * (d % e) + 256 ^ (r + 1) ≤ W32 := by
      rw [he, ← Nat.mul_succ]; exact Nat.mul_le_mul_left _ (Nat.mod_lt _ hepos)
    have hlt2 : 256 ^ (r + 1) * d % W32 + x * 256 ^ r < W32 := by rw [hm]; omega
    have hd := Nat.div_add_mod (256 ^ (r + 1) * d) W32
    constructor
    · conv => rhs; rw [← hd, Nat.add_assoc, Nat.mul_add_div (by decide), Nat.div_eq_of_lt hlt2, Nat.add_zero]
    · conv => rhs; rw [← hd, Nat.add_assoc, Nat.mul_add_mod, Nat.mod_eq_of_lt hlt2]
      rw [hm]
      refine or_high (m := 8 * (r + 1)) ?_ ?_
      · rw [Nat.pow_mul]; exact Nat.dvd_mul_right _ _
      · rw [Nat.pow_mul]; exact hlt
  obtain ⟨s1, s2⟩ := hsum (256 ^ (r + 1) * c) (Nat.dvd_mul_right _ _)
  constructor
  · intro j hj
    rcases Nat.lt_or_gt_of_ne hj with h | h
    · obtain ⟨m, rfl⟩ : ∃ m, q = j + (m + 1) := ⟨q - j - 1, by omega⟩
      rw [Nat.pow_add, Nat.pow_succ]
      have : ∀ A, W32 ^ j * (W32 ^ m * W32) * A = W32 ^ j * (W32 * (W32 ^ m * A)) := fun A => by ac_rfl
      rw [this, this, Nat.mul_div_cancel_left _ (hpos j), Nat.mul_div_cancel_left _ (hpos j), Nat.mul_mod_right, Nat.mul_mod_right]
    · obtain ⟨m, rfl⟩ : ∃ m, j = q + (1 + m) := ⟨j - q - 1, by omega⟩
      have hj2 : ∀ A, W32 ^ q * A / W32 ^ (q + (1 + m)) = A / W32 / W32 ^ m := fun A => by
        rw [Nat.pow_add W32 q, ← Nat.div_div_eq_div_mul, Nat.mul_div_cancel_left _ (hpos q), Nat.pow_add W32 1, Nat.pow_one, ← Nat.div_div_eq_div_mul]
      rw [hj2, hj2, s1]
  · have hx2 : x * 2 ^ (8 * r) % 2 ^ 32 = x * 256 ^ r := by rw [Nat.pow_mul]; exact Nat.mod_eq_of_lt hsmall
    rw [Nat.mul_div_cancel_left _ (hpos q), Nat.mul_div_cancel_left _ (hpos q), ← s2, hx2]
end Go.Proofs.Ytffofdfikmpanaa.A
namespace Go.Proofs.Ytffofdfikmpanaa.A
set_option linter.unusedVariables false
set_option linter.unusedSimpArgs false
set_option maxRecDepth 10000
theorem wordsN_zero (n : Nat) : wordsN n 0 = List.replicate n 0 := by
  refine List.ext_getElem? fun i => ?_
  by_cases h : i < n <;> simp [wordsN, h]
theorem beval_take_succ {b : List UInt8} {i : Nat} (h : i < b.length) : beval (b.take (i + 1)) = beval (b.take i) * 256 + (b.getD i 0).toNat := by
  have : b.take (i + 1) = b.take i ++ [b.getD i 0] := by
    rw [List.take_add_one, List.getD_eq_getElem?_getD, List.getElem?_eq_getElem h]; rfl
  rw [this, beval_append]; simp [beval]
theorem nat_read_eq (b : List UInt8) (hn : b.length ≤ 1000000) : F_nat_Read (bytesV b) = some (numV .u32 (dig W32 (beval b))) := by
  unfold F_nat_Read
  simp only [decide_eq_true_eq, len_bytesV]
  have eL : w64 (Int.tdiv (w64 ((b.length : Int) + 3)) 4) = (((b.length + 3) / 4 : Nat) : Int) := by
    rw [w64_in (n := (b.length : Int) + 3) (by omega) (by omega), show (b.length : Int) + 3 = ((b.length + 3 : Nat) : Int) by omega, show (4 : Int) = ((4 : Nat) : Int) from rfl, i64_tdiv, w64_nat (by omega)]
  rw [eL, if_pos (by omega)]
  generalize hL : (b.length + 3) / 4 = L
  refine loopO_run (ι := Nat) (fun i => (bytesV b, numV .u32 (wordsN L (beval (b.take i) * 256 ^ (b.length - i))), bytesV b, (b.length : Int), (i : Int))) (fun _ => numV .u32 (dig W32 (beval b))) (fun i => i ≤ b.length) (fun i => b.length - i) ?_ 0 (Nat.zero_le _)
    |> (fun h => by rw [← h]; simp only [List.take_zero, beval_nil, Nat.zero_mul, wordsN_zero, numV_replicate, rep, Int.toNat_natCast]; rfl)
  intro i hi
  dsimp only
  by_cases h : i < b.length
  · left
    refine ⟨i + 1, ?_, h, by omega, rfl⟩
    have e1 : w64 (w64 ((b.length : Int) - 1) - (i : Int)) = ((b.length - 1 - i : Nat) : Int) := by rw [w64_in (n := (b.length : Int) - 1) (by omega) (by omega), w64_in (by omega) (by omega)]; omega
    rw [if_pos (by omega), if_pos (by omega), Int.toNat_natCast, bytesV_getD h]
    simp only [Option.bind_some, byteV_int, len_bytesV, e1]
    rw [show (4 : Int) = ((4 : Nat) : Int) from rfl, i64_tdiv, i64_tmod]
    generalize hk : b.length - 1 - i = k
    have e2 : w64 ((k / 4 : Nat) : Int) = ((k / 4 : Nat) : Int) := w64_nat (by omega)
    have e8 : w64 (8 * ((k % 4 : Nat) : Int)) = ((8 * (k % 4) : Nat) : Int) := w64_in (by omega) (by omega)
    have hkL : k / 4 < L := by omega
    simp only [e2, e8, len_numV, wordsN_length, Int.toNat_natCast, Nat.zero_add]
    rw [if_pos (by omega), numV_getD (by rw [wordsN_length]; exact hkL)]
    simp only [Option.bind_some, cells_int, List.getElem?_cons_zero, int?_int, storeEl_int]
    rw [if_neg (by omega), if_pos (by omega)]
    have e3 : w64 ((i : Int) + 1) = ((i + 1 : Nat) : Int) := w64_in (by omega) (by omega)
    rw [e3]
    have hx := u8_lt (b.getD i 0)
    generalize hxx : (b.getD i 0).toNat = x at hx
    have hv : beval (b.take (i + 1)) * 256 ^ (b.length - (i + 1)) = beval (b.take i) * 256 ^ (b.length - i) + x * 256 ^ k := by
      rw [beval_take_succ h, hxx, show b.length - i = k + 1 by omega, show b.length - (i + 1) = k by omega, Nat.pow_succ, Nat.add_mul, Nat.mul_assoc, Nat.mul_comm 256]
    rw [hv]
    obtain ⟨h1, h2⟩ := words_add (beval (b.take i) * 256 ^ (b.length - i)) x k (by rw [show b.length - i = k + 1 by omega]; exact Nat.dvd_mul_left _ _) hx
    rw [wu32_nat, Nat.mod_eq_of_lt (show x < 4294967296 by omega), wordShl_u32 _ _ (by omega), wordsN_get hkL, wordOr_u32 (Nat.mod_lt _ (by decide)) (Nat.mod_lt _ (by decide)), show 4294967296 = 2 ^ 32 from rfl, show 2 ^ 32 = W32 from rfl]
    rw [show (2 : Nat) ^ 32 = W32 from rfl] at h2
    rw [h2, numV_set, wordsN_set hkL h1]
  · right
    have : i = b.length := by omega
    subst this
    rw [if_neg (by omega), all_eq, Nat.sub_self, Nat.pow_zero, Nat.mul_one, List.take_length, nat_trim_eq _ (wordsN_isW _ _) (by rw [wordsN_length]; omega), val_wordsN, Nat.mod_eq_of_lt]
    · rfl
    · refine Nat.lt_of_lt_of_le (beval_lt b) ?_
      rw [show W32 = 256 ^ 4 by decide, ← Nat.pow_mul]
      exact Nat.pow_le_pow_right (by decide) (by omega)
end Go.Proofs.Ytffofdfikmpanaa.A
namespace Go.Proofs.Ytffofdfikmpanaa.A
set_option linter.unusedVariables false
set_option linter.unusedSimpArgs false
set_option maxRecDepth 10000
abbrev B16 : Nat := 65536
def isD (l : List Nat) : Prop := ∀ d ∈ l, d < B16
theorem isD_dig (n : Nat) : isD (dig B16 n) := dig_lt (by decide) n
theorem isD.getD {l : List Nat} (h : isD l) (i : Nat) : l.getD i 0 < B16 := by
  rw [List.getD_eq_getElem?_getD]
  cases hi : l[i]? with
  | none => exact (by decide)
  | some d => exact h d (List.mem_of_getElem? hi)
theorem r04_digit_eq (l : List Nat) (i : Nat) : F_affiantref04_digit (numV .u64 l, (i : Int)) = some ((l.getD i 0 : Nat) : Int) := by
  unfold F_affiantref04_digit
  simp only [decide_eq_true_eq, len_numV]
  by_cases h : i < l.length
  · rw [if_pos (by omega), if_pos (by omega), Int.toNat_natCast, numV_getD h]; simp
  · rw [if_neg (by omega), List.getD_eq_getElem?_getD, List.getElem?_eq_none (by omega)]; rfl
theorem r04_trim_eq (l : List Nat) (hl : isD l) (hn : l.length ≤ 1000000000) : F_affiantref04_trim (numV .u64 l) = some (numV .u64 (dig B16 (val B16 l))) := by
  unfold F_affiantref04_trim
  simp only [decide_eq_true_eq, len_numV]
  refine loopO_run (ι := Nat) (fun n => (numV .u64 l, (n : Int))) (fun _ => numV .u64 (dig B16 (val B16 l))) (fun n => n ≤ l.length ∧ ∀ i, n ≤ i → l.getD i 0 = 0) (fun n => n) ?_ l.length
    ⟨Nat.le_refl _, fun i hi => by rw [List.getD_eq_getElem?_getD, List.getElem?_eq_none hi]; rfl⟩
  rintro n ⟨h1, h2⟩
  dsimp only
  by_cases h0 : n = 0 ∨ l.getD (n - 1) 0 ≠ 0
  · right
    have hc : (if (n : Int) > 0 then if 0 ≤ w64 ((n : Int) - 1) then ((numV .u64 l)[Int.toNat (w64 ((n : Int) - 1))]?).bind fun v3 => (V.int? .u64 v3).bind fun v4 => some (v4 == 0) else none else some false : Option Bool) = some false := by
      rcases h0 with rfl | h0
      · rfl
      · have : 0 < n := by
          rcases Nat.eq_zero_or_pos n with rfl | h
          · exact absurd (h2 0 (Nat.le_refl _)) h0
          · exact h
        rw [if_pos (by omega), w64_in (by omega) (by omega), if_pos (by omega), show ((n : Int) - 1).toNat = n - 1 by omega, numV_getD (by omega)]
        simp only [Option.bind_some, int?_int]
        rw [show (((l.getD (n - 1) 0 : Nat) : Int) == 0) = false by simp only [beq_eq_false_iff_ne]; omega]
    rw [hc]
    simp only [Option.bind_some, Bool.false_eq_true, if_false]
    rw [if_pos (by omega)]
    simp only [numV_length, Int.toNat_natCast, true_and]
    rw [if_pos (by omega)]
    simp only [Option.bind_some, List.drop_zero]
    rw [dig_take (by decide) hl h1 h2 h0, numV_take]
  · left
    have h3 : 0 < n := by omega
    have h4 : l.getD (n - 1) 0 = 0 := by omega
    refine ⟨n - 1, ?_, ⟨by omega, fun i hi => ?_⟩, by omega, rfl⟩
    · rw [if_pos (by omega), w64_in (by omega) (by omega), if_pos (by omega), show ((n : Int) - 1).toNat = n - 1 by omega, numV_getD (by omega)]
      simp only [Option.bind_some, int?_int, h4]
      rw [if_pos (by rfl), show ((n : Int) - 1) = ((n - 1 : Nat) : Int) by omega]
    · by_cases hi2 : i = n - 1
      · rw [hi2, h4]
      · exact h2 i (by omega)
def halves (l : List Nat) : List Nat := l.flatMap fun w => [w % B16, w / B16]
theorem halves_length (l : List Nat) : (halves l).length = 2 * l.length := by
  induction l with
  | nil => rfl
  | cons w l ih => simp only [halves, List.flatMap_cons, List.length_append, List.length_cons, List.length_nil] at ih ⊢; omega
theorem halves_append (l m : List Nat) : halves (l ++ m) = halves l ++ halves m := by simp [halves]
theorem isD_halves {l : List Nat} (hl : isW l) : isD (halves l) := fun d hd => by
  simp only [halves, List.mem_flatMap] at hd
  obtain ⟨w, hw, hd⟩ := hd
  have := hl w hw
  have h2 : w < 4294967296 := this
  simp only [List.mem_cons, List.not_mem_nil, or_false] at hd
  rcases hd with rfl | rfl
  · exact Nat.mod_lt _ (by decide)
  · show w / 65536 < 65536; omega
theorem val_halves (l : List Nat) : val B16 (halves l) = val W32 l := by
  induction l with
  | nil => rfl
  | cons w l ih =>
    have : halves (w :: l) = [w % B16, w / B16] ++ halves l := rfl
    rw [this, val_append, ih]
    simp only [val, List.length_cons, List.length_nil]
    show w % 65536 + 65536 * (w / 65536 + 65536 * 0) + 65536 ^ (0 + 1 + 1) * val W32 l = w + 4294967296 * val W32 l
    omega
theorem take_snoc {l : List Nat} {i : Nat} (h : i < l.length) : l.take (i + 1) = l.take i ++ [l.getD i 0] := by
  rw [List.take_add_one, List.getD_eq_getElem?_getD, List.getElem?_eq_getElem h]; rfl
theorem r04_Digits_eq (l : List Nat) (hl : isW l) (hn : l.length ≤ 1000000) : F_affiantref04_Digits (numV .u32 l) = some (numV .u64 (dig B16 (val W32 l))) := by
  unfold F_affiantref04_Digits
  simp only [decide_eq_true_eq]
  refine loopO_run (ι := Nat) (fun i => (numV .u32 l, numV .u64 (halves (l.take i)), (i : Int))) (fun _ => numV .u64 (dig B16 (val W32 l))) (fun i => i ≤ l.length) (fun i => l.length - i) ?_ 0 (Nat.zero_le _)
  intro i hi
  dsimp only
  rw [len_numV]
  by_cases h : i < l.length
  · left
    refine ⟨i + 1, ?_, h, by omega, rfl⟩
    rw [if_pos (by omega), if_pos (by omega), Int.toNat_natCast, numV_getD h]
    simp only [Option.bind_some, int?_int, all_eq, numV_length, halves_length, List.length_take]
    rw [if_pos (by omega), if_pos (by omega)]
    have hw : l.getD i 0 < 4294967296 := hl.getD i
    rw [show (65536 : Int) = ((65536 : Nat) : Int) from rfl, i64_tmod, i64_tdiv, wu64_nat, wu32_nat, wu64_nat, take_snoc h, halves_append, numV_append, w64_in (by omega) (by omega),
      Nat.mod_eq_of_lt (a := l.getD i 0 / 65536) (by omega), Nat.mod_eq_of_lt (a := l.getD i 0 / 65536) (by omega), Nat.mod_eq_of_lt (a := l.getD i 0 % 65536) (by omega)]
    rfl
  · right
    have : i = l.length := by omega
    subst this
    rw [if_neg (by omega), all_eq, List.take_length, r04_trim_eq _ (isD_halves hl) (by rw [halves_length]; omega), val_halves]
    rfl
theorem dig_length_le {B n k : Nat} (hB : 2 ≤ B) (h : n < B ^ k) : (dig B n).length ≤ k := by
  induction k generalizing n with
  | zero => simp at h; subst h; simp [dig_zero]
  | succ k ih =>
    by_cases h0 : n = 0
    · subst h0; simp [dig_zero]
    · rw [dig_pos hB (by omega), List.length_cons]
      have := ih (n := n / B) (by rw [Nat.div_lt_iff_lt_mul (by omega)]; rwa [Nat.pow_succ] at h)
      omega
theorem dig16_length {l : List Nat} (hl : isW l) : (dig B16 (val W32 l)).length ≤ 2 * l.length := by
  refine dig_length_le (by decide) ?_
  have := val_lt hl
  rwa [show W32 = B16 ^ 2 by decide, ← Nat.pow_mul] at this
end Go.Proofs.Ytffofdfikmpanaa.A
namespace Go.Proofs.Ytffofdfikmpanaa.A
set_option linter.unusedVariables false
set_option linter.unusedSimpArgs false
set_option maxRecDepth 10000
theorem cur_put_eq (b : List UInt8) (n w : Nat) (h1 : 1 ≤ w) (h8 : w ≤ 8) (hn : n < 256 ^ w) (hb : b.length ≤ 2000000000) : F_cursor_Put (bytesV b, (n : Int), (w : Int)) = some (bytesV (b ++ beN w n), 0) := by
  unfold F_cursor_Put
  simp only [decide_eq_true_eq, decide_eq_false_iff_not]
  rw [if_pos (by omega), if_pos (by omega)]
  have e8 : w64 (8 * (w : Int)) = ((8 * w : Nat) : Int) := by rw [w64_in (by omega) (by omega)]; omega
  have hc : (if (w : Int) < 8 then if w64 (8 * (w : Int)) < 0 then none else some (wordShr .u64 (n : Int) (w64 (8 * (w : Int))) != 0) else some false : Option Bool) = some false := by
    split
    · rw [e8, if_neg (by omega), wordShr_u64 _ _ (by omega), Nat.div_eq_of_lt (by rw [Nat.pow_mul]; exact hn)]; rfl
    · rfl
  rw [hc]
  simp only [Option.bind_some, Bool.false_eq_true, if_false, len_bytesV]
  have e1 : w64 ((b.length : Int) + (w : Int)) = ((b.length + w : Nat) : Int) := by rw [w64_in (by omega) (by omega)]; omega
  rw [e1, if_pos (by omega)]
  have h0 : List.take (min (List.length (rep (List.length (bytesV b)) (V.int .u8 0))) (List.length (bytesV b))) (bytesV b) ++ List.drop (0 + min (List.length (rep (List.length (bytesV b)) (V.int .u8 0))) (List.length (bytesV b))) (rep (List.length (bytesV b)) (V.int .u8 0)) = bytesV b := by
    simp only [rep, List.length_replicate, Nat.min_self, Nat.zero_add]
    rw [List.take_length, List.drop_of_length_le (by simp), List.append_nil]
  rw [h0]
  have e2 : w64 (8 * w64 ((w : Int) - 1)) = 8 * ((w : Int) - 1) := by rw [w64_in (n := (w : Int) - 1) (by omega) (by omega), w64_in (by omega) (by omega)]
  rw [e2]
  refine (congrArg (loopO _) ?_).trans (loopO_run (ι := Nat) (fun j => ((n : Int), bytesV (b ++ (beN w n).take j), 8 * ((w : Int) - 1 - (j : Int)))) (fun _ => (bytesV (b ++ beN w n), 0)) (fun j => j ≤ w) (fun j => w - j) ?_ 0 (Nat.zero_le _))
  · simp
  intro j hj
  dsimp only
  by_cases h : j < w
  · left
    refine ⟨j + 1, ?_, h, by omega, rfl⟩
    rw [if_pos (by omega), if_neg (by omega)]
    simp only [all_eq, bytesV_length, List.length_append, List.length_take, beN_length]
    rw [if_pos (by omega), show 8 * ((w : Int) - 1 - (j : Int)) = ((8 * (w - 1 - j) : Nat) : Int) by omega, wordShr_u64 _ _ (by omega), wu8_nat, byteV_of, Nat.pow_mul]
    have ht : (beN w n).take (j + 1) = (beN w n).take j ++ [UInt8.ofNat (n / 256 ^ (w - 1 - j))] := by
      rw [List.take_add_one, beN_get h]; rfl
    rw [ht, ← List.append_assoc, bytesV_append (b ++ _), w64_in (by omega) (by omega)]
    congr 5
    omega
  · right
    rw [if_neg (by omega), all_eq, List.take_of_length_le (by rw [beN_length]; omega)]
theorem cur_left_eq (b : List UInt8) (at_ : Nat) (h : at_ ≤ b.length) (hb : b.length ≤ 2000000000) : F_cursor_Cursor_Left (bytesV b, (at_ : Int)) = some (((b.length - at_ : Nat) : Int), bytesV b, (at_ : Int)) := by
  unfold F_cursor_Cursor_Left
  simp only [len_bytesV]
  rw [w64_in (by omega) (by omega), show (b.length : Int) - (at_ : Int) = ((b.length - at_ : Nat) : Int) by omega]
theorem cur_take_ok (b : List UInt8) (at_ n : Nat) (h : at_ + n ≤ b.length) (hb : b.length ≤ 2000000000) : F_cursor_Cursor_Take ((bytesV b, (at_ : Int)), (n : Int)) = some ((bytesV ((b.drop at_).take n), 0), (bytesV b, ((at_ + n : Nat) : Int)), ()) := by
  unfold F_cursor_Cursor_Take
  simp only [decide_eq_true_eq]
  rw [if_neg (by omega), cur_left_eq b at_ (by omega) hb]
  simp only [Option.bind_some]
  have e1 : w64 ((at_ : Int) + (n : Int)) = ((at_ + n : Nat) : Int) := by rw [w64_in (by omega) (by omega)]; omega
  rw [if_neg (by omega), if_pos (by omega), e1, if_pos (by omega)]
  simp only [Int.toNat_natCast, bytesV_length]
  rw [if_pos (by omega), bytesV_drop, bytesV_take, show at_ + n - at_ = n by omega, if_pos (by simp; omega)]
  simp only [Option.bind_some, all_eq]
theorem cur_take_short (b : List UInt8) (at_ n : Nat) (h0 : at_ ≤ b.length) (h : b.length < at_ + n) (hb : b.length ≤ 2000000000) : F_cursor_Cursor_Take ((bytesV b, (at_ : Int)), (n : Int)) = some ((bytesV [], 2), (bytesV b, (at_ : Int)), ()) := by
  unfold F_cursor_Cursor_Take
  simp only [decide_eq_true_eq]
  rw [if_neg (by omega), cur_left_eq b at_ (by omega) hb]
  simp only [Option.bind_some]
  rw [if_pos (by omega)]; rfl
theorem num_loop (l : List UInt8) (hl : l.length ≤ 8) (x : (List V × Int) × Unit) (e : Int) (f : List V × Int × (Nat × Nat) × Int × Int → Option ((List V × Int × (Nat × Nat) × Int × Int) ⊕ ((Int × Int) × ((List V × Int) × Unit))))
    (hf : ∀ (n : Nat) (j : Nat), f (bytesV l, (n : Int), (0, l.length), (l.length : Int), (j : Int)) = if (j : Int) < (l.length : Int) then if 0 ≤ (j : Int) ∧ (j : Int) < (l.length : Int) then ((bytesV l)[0 + (j : Int).toNat]?).bind fun v15 => ((V.cells v15)[0]?).bind fun v16 => (V.int? .u8 v16).bind fun v17 => some (.inl (bytesV l, wordOr .u64 (wordShl .u64 (n : Int) 8) (wu64 v17), (0, l.length), (l.length : Int), w64 ((j : Int) + 1))) else none else some (.inr (((n : Int), e), x))) :
    loopO f (bytesV l, 0, (0, l.length), (l.length : Int), 0) = some ((((beval l : Nat) : Int), e), x) := by
  refine loopO_run (ι := Nat) (fun j => (bytesV l, ((beval (l.take j) : Nat) : Int), (0, l.length), (l.length : Int), (j : Int))) (fun _ => ((((beval l : Nat) : Int), e), x)) (fun j => j ≤ l.length) (fun j => l.length - j) ?_ 0 (Nat.zero_le _)
  intro j hj
  rw [hf]
  by_cases h : j < l.length
  · left
    refine ⟨j + 1, ?_, h, by omega, rfl⟩
    rw [if_pos (by omega), if_pos (by omega), Int.toNat_natCast, Nat.zero_add, bytesV_getD h]
    simp only [Option.bind_some, byteV_cells, List.getElem?_cons_zero, byteV_int]
    have hlt := beval_lt (l.take j)
    rw [List.length_take, Nat.min_eq_left (by omega)] at hlt
    have h7 : beval (l.take j) < 256 ^ 7 := Nat.lt_of_lt_of_le hlt (Nat.pow_le_pow_right (by decide) (by omega))
    have hx := u8_lt (l.getD j 0)
    rw [show (8 : Int) = ((8 : Nat) : Int) from rfl, wordShl_u64 _ _ (by omega), wu64_nat, Nat.mod_eq_of_lt (a := beval (l.take j) * 2 ^ 8) (by omega), Nat.mod_eq_of_lt (a := (l.getD j 0).toNat) (by omega),
      wordOr_u64 (by omega) (by omega), or_high (m := 8) (Nat.dvd_mul_left _ _) (by omega), w64_in (by omega) (by omega), beval_take_succ h]
    rfl
  · right
    rw [if_neg (by omega), List.take_of_length_le (by omega)]
theorem cur_num_ok (b : List UInt8) (at_ w : Nat) (h1 : 1 ≤ w) (h8 : w ≤ 8) (h : at_ + w ≤ b.length) (hb : b.length ≤ 2000000000) :
    F_cursor_Cursor_Number ((bytesV b, (at_ : Int)), (w : Int)) = some ((((beval ((b.drop at_).take w) : Nat) : Int), 0), (bytesV b, ((at_ + w : Nat) : Int)), ()) := by
  unfold F_cursor_Cursor_Number
  simp only [decide_eq_true_eq, decide_eq_false_iff_not]
  rw [if_pos (by omega)]
  simp only [Option.bind_some, decide_eq_true_eq]
  rw [if_neg (by omega), cur_take_ok b at_ w h hb]
  simp only [Option.bind_some]
  have hl : ((b.drop at_).take w).length = w := by simp; omega
  have hl2 : List.length (bytesV ((b.drop at_).take w)) = ((b.drop at_).take w).length := bytesV_length _
  rw [hl2, len_bytesV]
  refine num_loop _ (by omega) _ 0 _ ?_
  intro n j
  rfl
theorem cur_num_short (b : List UInt8) (at_ w : Nat) (h1 : 1 ≤ w) (h8 : w ≤ 8) (h0 : at_ ≤ b.length) (h : b.length < at_ + w) (hb : b.length ≤ 2000000000) :
    F_cursor_Cursor_Number ((bytesV b, (at_ : Int)), (w : Int)) = some ((0, 2), (bytesV b, (at_ : Int)), ()) := by
  unfold F_cursor_Cursor_Number
  simp only [decide_eq_true_eq, decide_eq_false_iff_not]
  rw [if_pos (by omega)]
  simp only [Option.bind_some, decide_eq_true_eq]
  rw [if_neg (by omega), cur_take_short b at_ w h0 h hb]
  simp only [Option.bind_some]
  refine num_loop [] (by simp) _ 2 _ ?_
  intro n j
  rfl
theorem cur_rest_eq (b : List UInt8) (at_ : Nat) (h : at_ ≤ b.length) (hb : b.length ≤ 2000000000) : F_cursor_Cursor_Rest (bytesV b, (at_ : Int)) = some (bytesV (b.drop at_), bytesV b, (b.length : Int)) := by
  unfold F_cursor_Cursor_Rest
  dsimp only
  rw [cur_left_eq b at_ h hb]
  simp only [Option.bind_some]
  rw [cur_take_ok b at_ (b.length - at_) (by omega) hb]
  simp only [Option.bind_some, all_eq]
  rw [show at_ + (b.length - at_) = b.length by omega, List.take_of_length_le (by simp)]
theorem cur_over_eq (b : List UInt8) (hb : b.length ≤ 2000000000) : F_cursor_Over (bytesV b) = some (bytesV b, ((0 : Nat) : Int)) := by
  unfold F_cursor_Over
  rw [if_pos (by rw [bytesV_length]; omega)]; rfl
end Go.Proofs.Ytffofdfikmpanaa.A
namespace Go.Proofs.Ytffofdfikmpanaa.A
set_option linter.unusedVariables false
set_option linter.unusedSimpArgs false
set_option maxRecDepth 10000
def mpiB (v : Nat) : List UInt8 := beN 2 (bitlen v) ++ be v
theorem be_length (v : Nat) : (be v).length = (bitlen v + 7) / 8 := beN_length _ _
theorem mpiB_length (v : Nat) : (mpiB v).length = 2 + (bitlen v + 7) / 8 := by simp [mpiB, beN_length, be_length]
theorem mpi_put_eq (b : List UInt8) (l : List Nat) (hl : isW l) (hn : l.length ≤ 1000000) (hb : b.length ≤ 1000000000) : F_mpi_Put (bytesV b, numV .u32 l) = some (if bitlen (val W32 l) ≤ 16384 then (bytesV (b ++ mpiB (val W32 l)), 0) else (nilV, 4)) := by
  unfold F_mpi_Put
  simp only [decide_eq_true_eq]
  rw [nat_bits_eq l hl hn]
  simp only [Option.bind_some]
  by_cases h : bitlen (val W32 l) ≤ 16384
  · rw [if_neg (by omega), if_pos h, wu64_nat, Nat.mod_eq_of_lt (by omega)]
    have := cur_put_eq b (bitlen (val W32 l)) 2 (by omega) (by omega) (by omega) (by omega)
    rw [show ((2 : Nat) : Int) = 2 from rfl] at this
    rw [this]
    simp only [Option.bind_some]
    rw [nat_bytes_eq l hl hn]
    simp only [Option.bind_some, all_eq, bytesV_length, List.length_append, beN_length, be_length]
    rw [if_pos (by omega), mpiB, ← List.append_assoc, bytesV_append (b ++ _)]
  · rw [if_pos (by omega), if_neg h]
def mpiT (r : List UInt8) : Nat ⊕ (Nat × List UInt8) :=
  if r.length < 2 then .inl 2
  else if 16384 < beval (r.take 2) then .inl 4
  else if (r.drop 2).length < (beval (r.take 2) + 7) / 8 then .inl 2
  else if bitlen (beval ((r.drop 2).take ((beval (r.take 2) + 7) / 8))) ≠ beval (r.take 2) then .inl 3
  else .inr (beval ((r.drop 2).take ((beval (r.take 2) + 7) / 8)), (r.drop 2).drop ((beval (r.take 2) + 7) / 8))
theorem mpi_take_eq (b : List UInt8) (at_ : Nat) (h : at_ ≤ b.length) (hb : b.length ≤ 1000000) :
    (∃ e a, mpiT (b.drop at_) = .inl e ∧ e ≠ 0 ∧ a ≤ b.length ∧ F_mpi_take (bytesV b, (at_ : Int)) = some ((nilV, (e : Int)), bytesV b, ((a : Nat) : Int))) ∨
    (∃ v a, mpiT (b.drop at_) = .inr (v, b.drop a) ∧ a ≤ b.length ∧ at_ ≤ a ∧ F_mpi_take (bytesV b, (at_ : Int)) = some ((numV .u32 (dig W32 v), 0), bytesV b, ((a : Nat) : Int))) := by
  have hlen : (b.drop at_).length = b.length - at_ := by simp
  unfold F_mpi_take mpiT
  simp only [decide_eq_true_eq, bne_iff_ne, ne_eq, ite_not]
  by_cases h2 : b.length < at_ + 2
  · left
    refine ⟨2, at_, by rw [if_pos (by omega)], by decide, h, ?_⟩
    have := cur_num_short b at_ 2 (by omega) (by omega) h h2 (by omega)
    rw [show ((2 : Nat) : Int) = 2 from rfl] at this
    rw [this]
    simp only [Option.bind_some]
    rw [if_neg (by omega)]; rfl
  · have := cur_num_ok b at_ 2 (by omega) (by omega) (by omega) (by omega)
    rw [show ((2 : Nat) : Int) = 2 from rfl] at this
    rw [this]
    simp only [Option.bind_some, if_true]
    rw [if_neg (show ¬ (b.drop at_).length < 2 by omega)]
    generalize hn : beval ((b.drop at_).take 2) = n
    have hn2 : n < 65536 := by
      have := beval_lt ((b.drop at_).take 2)
      rw [hn] at this
      refine Nat.lt_of_lt_of_le this ?_
      refine Nat.le_trans (Nat.pow_le_pow_right (by decide) (by simp; omega : ((b.drop at_).take 2).length ≤ 2)) (by decide)
    by_cases h4 : 16384 < n
    · left
      refine ⟨4, at_ + 2, by rw [if_pos h4], by decide, by omega, ?_⟩
      rw [if_pos (by omega)]; rfl
    · rw [if_neg h4, if_neg (show ¬ ((n : Int) > 16384) by omega)]
      have e1 : w64 (Int.tdiv (w64 (w64 (n : Int) + 7)) 8) = (((n + 7) / 8 : Nat) : Int) := by
        rw [w64_nat (n := n) (by omega), w64_in (n := (n : Int) + 7) (by omega) (by omega), show (n : Int) + 7 = ((n + 7 : Nat) : Int) by omega, show (8 : Int) = ((8 : Nat) : Int) from rfl, i64_tdiv, w64_nat (by omega)]
      rw [e1, List.drop_drop]
      generalize hk : (n + 7) / 8 = k
      by_cases h5 : b.length < at_ + 2 + k
      · left
        refine ⟨2, at_ + 2, by rw [if_pos (by simp; omega)], by decide, by omega, ?_⟩
        rw [cur_take_short b (at_ + 2) k (by omega) h5 (by omega)]
        simp only [Option.bind_some]
        rw [if_neg (by omega)]; rfl
      · rw [cur_take_ok b (at_ + 2) k (by omega) (by omega), if_neg (show ¬ (b.drop (at_ + 2)).length < k by simp; omega)]
        simp only [Option.bind_some, all_eq, if_true]
        generalize hx : (b.drop (at_ + 2)).take k = x
        have hxl : x.length = k := by rw [← hx]; simp; omega
        rw [nat_read_eq x (by omega)]
        simp only [Option.bind_some]
        have hdl : (dig W32 (beval x)).length ≤ x.length := by
          refine dig_length_le (by decide) (Nat.lt_of_lt_of_le (beval_lt x) (Nat.pow_le_pow_left (by decide) _))
        rw [nat_bits_eq _ (isW_dig _) (by omega), val_dig (by decide)]
        simp only [Option.bind_some]
        rw [w64_nat (n := n) (by omega)]
        by_cases h3 : bitlen (beval x) = n
        · right
          refine ⟨beval x, at_ + 2 + k, ?_, by omega, by omega, ?_⟩
          · rw [if_pos h3, List.drop_drop]
          · rw [if_pos (by omega)]
        · left
          refine ⟨3, at_ + 2 + k, by rw [if_neg h3], by decide, by omega, ?_⟩
          rw [if_neg (by omega)]; rfl
def mpiAll : Nat → List UInt8 → Nat ⊕ List Nat
  | 0, r => if r = [] then .inr [] else .inl 3
  | n + 1, r => match mpiT r with
    | .inl e => .inl e
    | .inr (v, r') => match mpiAll n r' with
      | .inl e => .inl e
      | .inr l => .inr (v :: l)
def natsV (l : List Nat) : List V := l.map fun v => .sl false false 1 (numV .u32 (dig W32 v))
theorem natsV_append (l m : List Nat) : natsV (l ++ m) = natsV l ++ natsV m := by simp [natsV]
theorem natsV_length (l : List Nat) : (natsV l).length = l.length := by simp [natsV]
def allR (o : Nat ⊕ List Nat) : List V × Int := match o with
  | .inl e => (nilV, (e : Int))
  | .inr l => (natsV l, 0)
theorem mpi_all_eq (b : List UInt8) (n : Nat) (hn : n ≤ 10) (hb : b.length ≤ 1000000) : F_mpi_All (bytesV b, (n : Int)) = some (allR (mpiAll n b)) := by
  unfold F_mpi_All
  simp only [decide_eq_true_eq, decide_eq_false_iff_not]
  rw [if_pos (by omega)]
  simp only [Option.bind_some, decide_eq_true_eq]
  rw [if_neg (by omega), cur_over_eq b (by omega)]
  simp only [Option.bind_some]
  refine (congrArg (loopO _) ?_).trans (loopO_run (ι := List Nat × Nat × Nat) (fun i => (nilV, 0, (bytesV b, (i.2.1 : Int)), natsV i.1, (n : Int), (i.2.2 : Int)))
    (fun i => match mpiAll (n - i.2.2) (b.drop i.2.1) with | .inl e => (nilV, (e : Int)) | .inr l => (natsV (i.1 ++ l), 0)) (fun i => i.2.2 ≤ n ∧ i.2.1 ≤ b.length ∧ i.1.length = i.2.2) (fun i => n - i.2.2) ?_ ([], 0, 0) ⟨Nat.zero_le _, Nat.zero_le _, rfl⟩ |>.trans ?_)
  · rfl
  · rintro ⟨acc, at_, i⟩ ⟨h1, h2, h3⟩
    dsimp only at h1 h2 h3 ⊢
    by_cases h : i < n
    · rw [if_pos (by omega), show n - i = (n - i - 1) + 1 by omega, mpiAll]
      rcases mpi_take_eq b at_ h2 hb with ⟨e, a, g1, g2, g3, g4⟩ | ⟨v, a, g1, g2, g3, g4⟩
      · right
        rw [g4, g1]
        simp only [Option.bind_some, bne_iff_ne, ne_eq]
        rw [if_pos (by omega)]
      · left
        refine ⟨(acc ++ [v], a, i + 1), ?_, ⟨by dsimp only; omega, g2, by simp [h3]⟩, by dsimp only; omega, ?_⟩
        · rw [g4]
          simp only [Option.bind_some, bne_iff_ne, ne_eq, not_true_eq_false, if_false, all_eq, natsV_length]
          rw [if_pos (by omega), natsV_append, w64_in (by omega) (by omega)]
          rfl
        · dsimp only
          rw [g1, show n - (i + 1) = n - i - 1 by omega]
          dsimp only
          cases mpiAll (n - i - 1) (b.drop a) with
          | inl e => rfl
          | inr l => simp
    · right
      rw [if_neg (by omega), show n - i = 0 by omega, mpiAll, cur_left_eq b at_ h2 (by omega)]
      simp only [Option.bind_some, all_eq]
      by_cases he : b.drop at_ = []
      · have : (b.drop at_).length = 0 := by rw [he]; rfl
        rw [List.length_drop] at this
        rw [if_neg (by omega), if_pos he]
        simp
      · have : (b.drop at_).length ≠ 0 := fun h0 => he (List.eq_nil_of_length_eq_zero h0)
        rw [List.length_drop] at this
        rw [if_pos (by omega), if_neg he]
        rfl
  · dsimp only
    rw [Nat.sub_zero, List.drop_zero]
    cases mpiAll n b <;> simp [allR]
end Go.Proofs.Ytffofdfikmpanaa.A
namespace Go.Proofs.Ytffofdfikmpanaa.A
set_option linter.unusedVariables false
set_option linter.unusedSimpArgs false
set_option maxRecDepth 10000
structure KeyM where
  ver : Int
  cr : Nat
  alg : Int
  n : List Nat
  e : List Nat
  pt : List UInt8
def intB (l : List UInt8) : List Int := l.map fun b => (b.toNat : Int)
@[simp] theorem intB_length (l : List UInt8) : (intB l).length = l.length := by simp [intB]
theorem intB_getD (l : List UInt8) (i : Nat) : (intB l).getD i 0 = ((l.getD i 0).toNat : Int) := by
  simp only [intB, List.getD_eq_getElem?_getD, List.getElem?_map]
  cases l[i]? <;> rfl
theorem intB_inj {l m : List UInt8} (h : intB l = intB m) : l = m := by
  unfold intB at h
  refine List.map_inj_right (fun a b h => ?_) |>.1 h
  exact UInt8.toNat_inj.1 (by omega)
theorem fitI_intB {l : List UInt8} {n : Nat} (h : l.length = n) : fitI (intB l) 0 n = intB l := fitI_eq (by simpa using h)
theorem arrV_intB {l : List UInt8} {n : Nat} (h : l.length = n) : arrV .u8 (intB l) 0 n = bytesV l := by
  refine List.ext_getElem? fun i => ?_
  by_cases hi : i < n
  · rw [arrV_get hi, Nat.zero_add, intB_getD, bytesV_getD (by omega)]; rfl
  · rw [List.getElem?_eq_none (by rw [arrV_length]; omega), List.getElem?_eq_none (by rw [bytesV_length]; omega)]
theorem intsOf_bytesV {l : List UInt8} {n : Nat} (h : l.length = n) : intsOf .u8 n (bytesV l) = some (intB l) := by
  subst h
  induction l with
  | nil => rfl
  | cons b l ih => simp only [bytesV_cons, List.length_cons, intsOf, byteV, ih]; rfl
def KeyM.tup (k : KeyM) : Int × Int × Int × List V × List V × List Int := (k.ver, (k.cr : Int), k.alg, numV .u32 k.n, numV .u32 k.e, intB k.pt)
structure KeyM.Ok (k : KeyM) : Prop where
  v1 : -9223372036854775808 ≤ k.ver
  v2 : k.ver ≤ 9223372036854775807
  c : k.cr < 4294967296
  a1 : -9223372036854775808 ≤ k.alg
  a2 : k.alg ≤ 9223372036854775807
  n : isW k.n
  e : isW k.e
  nl : k.n.length ≤ 100000
  el : k.e.length ≤ 100000
  p : k.pt.length = 32
def KeyM.N (k : KeyM) : Nat := val W32 k.n
def KeyM.E (k : KeyM) : Nat := val W32 k.e
def zero32 : List UInt8 := List.replicate 32 0
theorem intB_zero : intB zero32 = rep 32 0 := by decide +kernel
def KeyM.may (k : KeyM) : Prop := (k.ver = 4 ∨ k.ver = 6) ∧ (k.alg = 1 ∧ k.pt = zero32 ∧ bitlen k.N ≤ 16384 ∧ bitlen k.E ≤ 16384 ∨ k.alg = 27 ∧ k.n = [] ∧ k.e = [])
instance (k : KeyM) : Decidable k.may := by unfold KeyM.may; infer_instance
def KeyM.mat (k : KeyM) : List UInt8 := if k.alg = 27 then k.pt else mpiB k.N ++ mpiB k.E
def KeyM.body (k : KeyM) : List UInt8 := [UInt8.ofNat k.ver.toNat] ++ beN 4 k.cr ++ [UInt8.ofNat k.alg.toNat] ++ (if k.ver = 6 then beN 4 k.mat.length else []) ++ k.mat
theorem key_short_eq (l : List Nat) (hl : isW l) (hn : l.length ≤ 1000000) : F_key_isShort (numV .u32 l) = some (decide (bitlen (val W32 l) ≤ 16384)) := by
  unfold F_key_isShort
  rw [nat_bits_eq l hl hn]
  simp only [Option.bind_some]
  refine congrArg some (decide_eq_decide.2 ?_)
  omega
theorem no_may {k : KeyM} (h : ¬ k.may) : (some false : Option Bool) = some (decide k.may) := by rw [decide_eq_false h]
theorem iff_may {k : KeyM} {p : Prop} [Decidable p] (h : p ↔ k.may) : (some (decide p) : Option Bool) = some (decide k.may) := by rw [decide_eq_decide.2 h]
theorem key_may_eq (k : KeyM) (h : k.Ok) : F_key_may k.tup = some (decide k.may) := by
  unfold F_key_may KeyM.tup
  simp only [fitI_intB h.p, bne_iff_ne, beq_iff_eq, len_numV]
  by_cases hv : k.ver = 4 ∨ k.ver = 6
  · have h0 : (if k.ver ≠ 4 then some (k.ver != 6) else some false : Option Bool) = some false := by
      rcases hv with h | h <;> simp [h]
    rw [h0]
    simp only [Option.bind_some, Bool.false_eq_true, if_false]
    by_cases h1 : k.alg = 1
    · rw [if_pos h1]
      by_cases hz : k.pt = zero32
      · rw [if_pos (by rw [hz, intB_zero]), key_short_eq _ h.n (by have := h.nl; omega), key_short_eq _ h.e (by have := h.el; omega)]
        simp only [Option.bind_some, decide_eq_true_eq]
        split
        · rename_i g
          refine iff_may ⟨fun q => ⟨hv, .inl ⟨h1, hz, g, q⟩⟩, ?_⟩
          rintro ⟨_, ⟨_, _, _, q⟩ | ⟨q, _⟩⟩
          · exact q
          · omega
        · rename_i g
          refine no_may ?_
          rintro ⟨_, ⟨_, _, q, _⟩ | ⟨q, _⟩⟩
          · exact g q
          · omega
      · rw [if_neg (fun g => hz (intB_inj (g.trans intB_zero.symm)))]
        simp only [Option.bind_some]
        refine no_may ?_
        rintro ⟨_, ⟨_, q, _⟩ | ⟨q, _⟩⟩
        · exact hz q
        · omega
    · rw [if_neg h1]
      by_cases h27 : k.alg = 27
      · rw [if_pos h27]
        split
        · rename_i g
          simp only [Option.bind_some]
          refine (congrArg some (show ((k.e.length : Int) == 0) = decide ((k.e.length : Int) = 0) from rfl)).trans (iff_may ⟨?_, ?_⟩)
          · exact fun q => ⟨hv, .inr ⟨h27, List.eq_nil_of_length_eq_zero (by omega), List.eq_nil_of_length_eq_zero (by omega)⟩⟩
          · rintro ⟨_, ⟨q, _⟩ | ⟨_, _, q⟩⟩
            · omega
            · rw [q]; rfl
        · rename_i g
          simp only [Option.bind_some]
          refine no_may ?_
          rintro ⟨_, ⟨q, _⟩ | ⟨_, q, _⟩⟩
          · omega
          · exact g (by rw [q]; rfl)
      · rw [if_neg h27]
        refine no_may ?_
        rintro ⟨_, ⟨q, _⟩ | ⟨q, _⟩⟩
        · exact h1 q
        · exact h27 q
  · have h0 : (if k.ver ≠ 4 then some (k.ver != 6) else some false : Option Bool) = some true := by
      rw [if_pos (fun g => hv (.inl g))]; simp only [Option.some.injEq, bne_iff_ne]; exact fun g => hv (.inr g)
    rw [h0]
    simp only [Option.bind_some, if_true]
    exact no_may fun g => hv g.1
theorem key_put_eq (b : List UInt8) (n w : Nat) (h1 : 1 ≤ w) (h8 : w ≤ 8) (hn : n < 256 ^ w) (hb : b.length ≤ 2000000000) (hn2 : n < 18446744073709551616) : F_key_put (bytesV b, (n : Int), (w : Int)) = some (bytesV (b ++ beN w n)) := by
  unfold F_key_put
  dsimp only
  rw [wu64_nat, Nat.mod_eq_of_lt hn2, cur_put_eq b n w h1 h8 hn hb]
  simp only [Option.bind_some, all_eq]
theorem KeyM.mat_length {k : KeyM} (h : k.Ok) (hm : k.may) : k.mat.length ≤ 4200 := by
  unfold KeyM.mat
  obtain ⟨_, ⟨h1, _, h2, h3⟩ | ⟨h1, _⟩⟩ := hm
  · rw [if_neg (by omega)]; simp only [List.length_append, mpiB_length]; omega
  · rw [if_pos h1, h.p]; omega
theorem key_material_eq (k : KeyM) (h : k.Ok) (hm : k.may) : F_key_material k.tup = some (bytesV k.mat) := by
  unfold F_key_material KeyM.tup
  simp only [beq_iff_eq, arrV_intB h.p]
  unfold KeyM.mat
  obtain ⟨_, ⟨h1, _, h2, h3⟩ | ⟨h1, _⟩⟩ := hm
  · rw [if_neg (by omega), if_neg (by omega)]
    have e1 := mpi_put_eq [] k.n h.n (by have := h.nl; omega) (by simp)
    rw [show val W32 k.n = k.N from rfl, if_pos h2] at e1
    rw [show (nilV, numV .u32 k.n) = (bytesV [], numV .u32 k.n) from rfl, e1]
    simp only [Option.bind_some, all_eq, List.nil_append]
    have e2 := mpi_put_eq (mpiB k.N) k.e h.e (by have := h.el; omega) (by rw [mpiB_length]; omega)
    rw [show val W32 k.e = k.E from rfl, if_pos h3] at e2
    rw [e2]
    simp only [Option.bind_some, all_eq]
  · rw [if_pos h1, if_pos h1]
theorem one_byte {v : Int} (h1 : 0 ≤ v) (h2 : v < 256) : V.int .u8 (wu8 v) = byteV (UInt8.ofNat v.toNat) := by
  obtain ⟨n, rfl⟩ := Int.eq_ofNat_of_zero_le h1
  rw [wu8_nat, byteV_of]; rfl
theorem key_emit_eq (k : KeyM) (h : k.Ok) : F_key_Emit k.tup = some (if k.may then (bytesV k.body, 0) else (nilV, 1)) := by
  have hmay := key_may_eq k h
  have hmat := key_material_eq k h
  unfold KeyM.tup at hmay hmat
  unfold F_key_Emit KeyM.tup
  simp only [fitI_intB h.p]
  rw [hmay]
  simp only [Option.bind_some, Bool.not_eq_true', decide_eq_false_iff_not, beq_iff_eq]
  by_cases hm : k.may
  · rw [if_neg (by simpa using hm), hmat hm, if_pos hm]
    simp only [Option.bind_some]
    have hl := KeyM.mat_length h hm
    have hv : 0 ≤ k.ver ∧ k.ver < 256 := by obtain ⟨h | h, _⟩ := hm <;> omega
    have ha : 0 ≤ k.alg ∧ k.alg < 256 := by obtain ⟨_, ⟨h, _⟩ | ⟨h, _⟩⟩ := hm <;> omega
    have hc := h.c
    rw [one_byte hv.1 hv.2, one_byte ha.1 ha.2, w64_nat (by omega)]
    have e1 := key_put_eq [UInt8.ofNat k.ver.toNat] k.cr 4 (by omega) (by omega) (by omega) (by simp) (by omega)
    rw [show ((4 : Nat) : Int) = 4 from rfl, show bytesV [UInt8.ofNat k.ver.toNat] = [byteV (UInt8.ofNat k.ver.toNat)] from rfl] at e1
    rw [e1]
    simp only [Option.bind_some, bytesV_length, List.length_append, List.length_cons, List.length_nil, beN_length, all_eq]
    rw [if_pos (by omega), show bytesV ([UInt8.ofNat k.ver.toNat] ++ beN 4 k.cr) ++ [byteV (UInt8.ofNat k.alg.toNat)] = bytesV ([UInt8.ofNat k.ver.toNat] ++ beN 4 k.cr ++ [UInt8.ofNat k.alg.toNat]) from (bytesV_append _ [_]).symm]
    by_cases h6 : k.ver = 6
    · rw [if_pos h6, len_bytesV]
      have e2 := key_put_eq ([UInt8.ofNat k.ver.toNat] ++ beN 4 k.cr ++ [UInt8.ofNat k.alg.toNat]) k.mat.length 4 (by omega) (by omega) (by omega) (by simp [beN_length]) (by omega)
      rw [show ((4 : Nat) : Int) = 4 from rfl] at e2
      rw [e2]
      simp only [Option.bind_some, bytesV_length, List.length_append, List.length_cons, List.length_nil, beN_length]
      rw [if_pos (by omega), ← bytesV_append]
      simp only [KeyM.body, if_pos h6]
    · rw [if_neg h6]
      simp only [Option.bind_some, bytesV_length, List.length_append, List.length_cons, List.length_nil, beN_length]
      rw [if_pos (by omega), ← bytesV_append]
      simp only [KeyM.body, if_neg h6, List.append_nil]
  · rw [if_pos (by simpa using hm), if_neg hm]
def KeyM.image (k : KeyM) : List UInt8 := if k.ver = 6 then [155] ++ beN 4 k.body.length ++ k.body else [153] ++ beN 2 k.body.length ++ k.body
theorem KeyM.body_length {k : KeyM} (h : k.Ok) (hm : k.may) : k.body.length ≤ 4300 := by
  have := KeyM.mat_length h hm
  unfold KeyM.body
  simp only [List.length_append, List.length_cons, List.length_nil, beN_length]
  split <;> simp [beN_length] <;> omega
theorem key_image_eq (k : KeyM) (h : k.Ok) : F_key_Image k.tup = some (if k.may then (bytesV k.image, 0) else (nilV, 1)) := by
  have hem := key_emit_eq k h
  unfold KeyM.tup at hem
  unfold F_key_Image KeyM.tup
  simp only [fitI_intB h.p]
  rw [hem]
  simp only [Option.bind_some, bne_iff_ne, ne_eq, beq_iff_eq]
  by_cases hm : k.may
  · have hl := KeyM.body_length h hm
    simp only [if_pos hm, not_true_eq_false, if_false, all_eq, len_bytesV, bytesV_length]
    unfold KeyM.image
    by_cases h6 : k.ver = 6
    · have e := key_put_eq [155] k.body.length 4 (by omega) (by omega) (by omega) (by simp) (by omega)
      rw [if_pos h6, if_pos h6, show [V.int .u8 155] = bytesV [155] from rfl, show (4 : Int) = ((4 : Nat) : Int) from rfl, e]
      simp only [Option.bind_some, bytesV_length, List.length_append, List.length_cons, List.length_nil, beN_length]
      rw [if_pos (by omega), ← bytesV_append]
    · have e := key_put_eq [153] k.body.length 2 (by omega) (by omega) (by omega) (by simp) (by omega)
      rw [if_neg h6, if_neg h6, show [V.int .u8 153] = bytesV [153] from rfl, show (2 : Int) = ((2 : Nat) : Int) from rfl, e]
      simp only [Option.bind_some, bytesV_length, List.length_append, List.length_cons, List.length_nil, beN_length]
      rw [if_pos (by omega), ← bytesV_append]
  · simp only [if_neg hm]
    rw [if_pos (by omega)]
theorem bytes_equal_eq (a b : List UInt8) : F_bytes_Equal (bytesV a, bytesV b) = some (a == b) := by
  unfold F_bytes_Equal
  simp only [unbytes_bytesV, Option.bind_some]
theorem key_same_eq (k j : KeyM) (hk : k.Ok) (hj : j.Ok) : F_key_Same (k.tup, j.tup) = some (decide (k.may ∧ j.may ∧ k.image = j.image)) := by
  have e1 := key_image_eq k hk
  have e2 := key_image_eq j hj
  unfold KeyM.tup at e1 e2
  unfold F_key_Same KeyM.tup
  simp only [fitI_intB hk.p, fitI_intB hj.p]
  rw [e1, e2]
  simp only [Option.bind_some, beq_iff_eq, all_eq]
  by_cases h1 : k.may
  · by_cases h2 : j.may
    · simp only [if_pos h1, if_pos h2, if_true]
      rw [bytes_equal_eq]
      simp only [Option.bind_some]
      refine congrArg some ((show (k.image == j.image) = decide (k.image = j.image) by rw [Bool.eq_iff_iff, beq_iff_eq, decide_eq_true_eq]).trans (decide_eq_decide.2 ?_))
      exact ⟨fun h => ⟨h1, h2, h⟩, fun h => h.2.2⟩
    · simp only [if_pos h1, if_neg h2, if_true]
      rw [if_neg (by omega)]
      simp [h2]
  · simp only [if_neg h1]
    rw [if_neg (by omega)]
    simp [h1]
end Go.Proofs.Ytffofdfikmpanaa.A
namespace Go.Proofs.Ytffofdfikmpanaa.A
set_option linter.unusedVariables false
set_option linter.unusedSimpArgs false
set_option maxRecDepth 10000
def keyFill (ver : Int) (cr : Nat) (alg : Int) (m : List UInt8) : Nat ⊕ KeyM :=
  if alg = 27 then (if m.length = 32 then .inr ⟨ver, cr, alg, [], [], m⟩ else .inl 3)
  else match mpiAll 2 m with
    | .inl e => .inl e
    | .inr l => .inr ⟨ver, cr, alg, dig W32 (l.getD 0 0), dig W32 (l.getD 1 0), zero32⟩
def keyParse (b : List UInt8) : Nat ⊕ KeyM :=
  if b.length < 1 then .inl 2
  else if beval (b.take 1) ≠ 4 ∧ beval (b.take 1) ≠ 6 then .inl 3
  else if b.length < 6 then .inl 2
  else if beval ((b.drop 5).take 1) ≠ 1 ∧ beval ((b.drop 5).take 1) ≠ 27 then .inl 9
  else if beval (b.take 1) ≠ 6 then keyFill (beval (b.take 1) : Nat) (beval ((b.drop 1).take 4)) (beval ((b.drop 5).take 1) : Nat) (b.drop 6)
  else if b.length < 10 then .inl 2
  else if beval ((b.drop 6).take 4) ≠ b.length - 10 then .inl 3
  else keyFill (beval (b.take 1) : Nat) (beval ((b.drop 1).take 4)) (beval ((b.drop 5).take 1) : Nat) (b.drop 10)
def zeroKey : KeyM := ⟨0, 0, 0, [], [], zero32⟩
def parseR (o : Nat ⊕ KeyM) : (Int × Int × Int × List V × List V × List Int) × Int := match o with
  | .inl e => (zeroKey.tup, (e : Int))
  | .inr k => (k.tup, 0)
theorem zeroKey_tup : zeroKey.tup = (0, 0, 0, nilV, nilV, rep 32 0) := by
  unfold KeyM.tup zeroKey
  rw [intB_zero]; rfl
theorem mpiAll_length : ∀ {n : Nat} {r : List UInt8} {l : List Nat}, mpiAll n r = .inr l → l.length = n
  | 0, r, l, h => by
    unfold mpiAll at h
    split at h <;> cases h
    rfl
  | n + 1, r, l, h => by
    unfold mpiAll at h
    split at h
    · cases h
    · split at h
      · cases h
      · rename_i h2
        cases h
        simp [mpiAll_length h2]
theorem key_fill_eq (ver : Int) (cr : Nat) (alg : Int) (m : List UInt8) (hm : m.length ≤ 1000000) : F_key_fill ((ver, (cr : Int), alg, nilV, nilV, rep 32 0), bytesV m) = some (parseR (keyFill ver cr alg m)) := by
  unfold F_key_fill keyFill
  simp only [beq_iff_eq, bne_iff_ne, len_bytesV, bytesV_length, ne_eq]
  by_cases ha : alg = 27
  · rw [if_pos ha, if_pos ha]
    by_cases hl : m.length = 32
    · rw [if_neg (by omega), if_pos (by omega), intsOf_bytesV hl, if_pos hl]
      simp only [Option.bind_some]
      (try rw [fitI_intB hl]); (try rw [fitI_intB hl]); rfl
    · rw [if_pos (by omega), if_neg hl]
      simp only [parseR, zeroKey_tup]; rfl
  · rw [if_neg ha, if_neg ha]
    have e := mpi_all_eq m 2 (by omega) hm
    rw [show ((2 : Nat) : Int) = 2 from rfl] at e
    rw [e]
    cases hq : mpiAll 2 m with
    | inl e =>
      simp only [allR, Option.bind_some]
      have he : e ≠ 0 := by
        intro h0
        subst h0
        have : ∀ (n : Nat) (r : List UInt8), mpiAll n r ≠ .inl 0 := by
          intro n
          induction n with
          | zero => intro r; unfold mpiAll; split <;> simp
          | succ n ih =>
            intro r
            unfold mpiAll
            split
            · rename_i e he
              unfold mpiT at he
              repeat' split at he
              all_goals first | (cases he; simp) | cases he
            · rename_i v r' _
              split
              · rename_i e he
                intro h
                cases h
                exact ih _ he
              · simp
        exact this _ _ hq
      rw [if_pos (by omega)]
      simp only [parseR, zeroKey_tup]
    | inr l =>
      have hl := mpiAll_length hq
      match l, hl with
      | [x, y], _ =>
        simp only [allR, Option.bind_some, natsV, List.map_cons, List.map_nil]
        rw [if_neg (by decide), if_pos ⟨by decide, by simp [len]⟩]
        simp only [List.getElem?_cons_zero, Option.bind_some]
        rw [show (V.sl false false 1 (numV .u32 (dig W32 x))).cells = [V.sl false false 1 (numV .u32 (dig W32 x))] from rfl]
        simp only [List.getElem?_cons_zero, Option.bind_some, V.lst?, and_self, if_true]
        rw [if_pos ⟨by decide, by simp [len]⟩]
        simp only [List.getElem?_cons_zero, List.getElem?_cons_succ, Option.bind_some]
        rw [show (V.sl false false 1 (numV .u32 (dig W32 y))).cells = [V.sl false false 1 (numV .u32 (dig W32 y))] from rfl]
        simp only [List.getElem?_cons_zero, Option.bind_some, and_self, if_true]
        have hf : fitI (rep 32 0) 0 32 = intB zero32 := by rw [intB_zero]; decide +kernel
        rw [hf]
        rfl
theorem beval1_lt (b : List UInt8) (k : Nat) : beval (b.take k) < 256 ^ k := by
  have := beval_lt (b.take k)
  refine Nat.lt_of_lt_of_le this (Nat.pow_le_pow_right (by decide) ?_)
  simp; omega
theorem key_size_eq (b : List UInt8) (at_ : Nat) (v : Int) (h : at_ ≤ b.length) (hb : b.length ≤ 1000000) :
    ∃ a, a ≤ b.length ∧ F_key_size ((bytesV b, (at_ : Int)), v) = some (((if v ≠ 6 then 0 else if b.length < at_ + 4 then 2 else if beval ((b.drop at_).take 4) ≠ b.length - (at_ + 4) then 3 else 0 : Nat) : Int), (bytesV b, (a : Int)), ()) ∧
      (v = 6 → at_ + 4 ≤ b.length → a = at_ + 4) ∧ (v ≠ 6 → a = at_) := by
  unfold F_key_size
  simp only [bne_iff_ne, ne_eq, beq_iff_eq]
  by_cases h6 : v = 6
  · by_cases hs : b.length < at_ + 4
    · refine ⟨at_, h, ?_, by omega, by omega⟩
      have e := cur_num_short b at_ 4 (by omega) (by omega) h hs (by omega)
      rw [show ((4 : Nat) : Int) = 4 from rfl] at e
      rw [if_neg (by omega), e, if_neg (by omega), if_pos hs]
      simp only [Option.bind_some]
      rw [if_neg (by omega)]; rfl
    · refine ⟨at_ + 4, by omega, ?_, by omega, by omega⟩
      have e := cur_num_ok b at_ 4 (by omega) (by omega) (by omega) (by omega)
      rw [show ((4 : Nat) : Int) = 4 from rfl] at e
      rw [if_neg (by omega), e, if_neg (by omega), if_neg hs]
      simp only [Option.bind_some, if_true]
      rw [cur_left_eq b (at_ + 4) (by omega) (by omega)]
      simp only [Option.bind_some]
      rw [wu64_nat, Nat.mod_eq_of_lt (by omega)]
      by_cases hn : beval ((b.drop at_).take 4) = b.length - (at_ + 4)
      · rw [if_neg (by rw [hn]; simp), if_neg (by simpa using hn)]; rfl
      · rw [if_pos (by omega), if_pos hn]; rfl
  · refine ⟨at_, h, ?_, by omega, by omega⟩
    rw [if_pos h6, if_pos h6]; rfl
theorem key_parse_eq (b : List UInt8) (hb : b.length ≤ 1000000) : F_key_Parse (bytesV b) = some (parseR (keyParse b)) := by
  unfold F_key_Parse keyParse
  rw [cur_over_eq b (by omega)]
  simp only [Option.bind_some, bne_iff_ne, ne_eq]
  by_cases h1 : b.length < 1
  · have e := cur_num_short b 0 1 (by omega) (by omega) (by omega) (by omega) (by omega)
    rw [show ((1 : Nat) : Int) = 1 from rfl] at e
    rw [e, if_pos h1]
    simp only [Option.bind_some]
    rw [if_pos (by decide)]
    simp only [parseR, zeroKey_tup]; rfl
  · have e := cur_num_ok b 0 1 (by omega) (by omega) (by omega) (by omega)
    rw [show ((1 : Nat) : Int) = 1 from rfl] at e
    rw [e, if_neg h1, List.drop_zero]
    simp only [Option.bind_some, not_true_eq_false, if_false]
    generalize hv : beval (b.take 1) = v
    have hv1 : v < 256 := by have := beval1_lt b 1; rw [hv] at this; exact this
    by_cases h2 : v ≠ 4 ∧ v ≠ 6
    · have hc : (if ¬ ((v : Int) = 4) then some ((v : Int) != 6) else some false : Option Bool) = some true := by
        rw [if_pos (by omega)]; simp only [Option.some.injEq, bne_iff_ne]; omega
      rw [hc, if_pos h2]
      simp only [Option.bind_some, if_true, parseR, zeroKey_tup]; rfl
    · have hc : (if ¬ ((v : Int) = 4) then some ((v : Int) != 6) else some false : Option Bool) = some false := by
        split
        · rw [show ((v : Int) != 6) = false by simp only [bne_eq_false_iff_eq]; omega]
        · rfl
      rw [hc, if_neg h2]
      simp only [Option.bind_some, Bool.false_eq_true, if_false]
      by_cases h5 : b.length < 5
      · have e := cur_num_short b 1 4 (by omega) (by omega) (by omega) (by omega) (by omega)
        rw [show ((1 : Nat) : Int) = 1 from rfl, show ((4 : Nat) : Int) = 4 from rfl] at e
        rw [e, if_pos (by omega)]
        simp only [Option.bind_some]
        rw [if_pos (by decide)]
        simp only [parseR, zeroKey_tup]; rfl
      · have e := cur_num_ok b 1 4 (by omega) (by omega) (by omega) (by omega)
        rw [show ((1 : Nat) : Int) = 1 from rfl, show ((4 : Nat) : Int) = 4 from rfl] at e
        rw [e]
        simp only [Option.bind_some, not_true_eq_false, if_false]
        generalize hcr : beval ((b.drop 1).take 4) = cr
        have hcr1 : cr < 4294967296 := by have := beval1_lt (b.drop 1) 4; rw [hcr] at this; exact this
        by_cases h6 : b.length < 6
        · have e := cur_num_short b 5 1 (by omega) (by omega) (by omega) (by omega) (by omega)
          rw [show ((1 : Nat) : Int) = 1 from rfl] at e
          rw [show (1 + 4 : Nat) = 5 from rfl, e, if_pos h6]
          simp only [Option.bind_some]
          rw [if_pos (by decide)]
          simp only [parseR, zeroKey_tup]; rfl
        · have e := cur_num_ok b 5 1 (by omega) (by omega) (by omega) (by omega)
          rw [show ((1 : Nat) : Int) = 1 from rfl] at e
          rw [show (1 + 4 : Nat) = 5 from rfl, e, if_neg h6]
          simp only [Option.bind_some, not_true_eq_false, if_false]
          generalize ha : beval ((b.drop 5).take 1) = a
          have ha1 : a < 256 := by have := beval1_lt (b.drop 5) 1; rw [ha] at this; exact this
          rw [w64_nat (n := a) (by omega), w64_nat (n := v) (by omega), wu32_nat, Nat.mod_eq_of_lt hcr1]
          by_cases h9 : a ≠ 1 ∧ a ≠ 27
          · have hc : (if ¬ ((a : Int) = 1) then some ((a : Int) != 27) else some false : Option Bool) = some true := by
              rw [if_pos (by omega)]; simp only [Option.some.injEq, bne_iff_ne]; omega
            rw [hc, if_pos h9]
            simp only [Option.bind_some, if_true, parseR, zeroKey_tup]; rfl
          · have hc : (if ¬ ((a : Int) = 1) then some ((a : Int) != 27) else some false : Option Bool) = some false := by
              split
              · rw [show ((a : Int) != 27) = false by simp only [bne_eq_false_iff_eq]; omega]
              · rfl
            rw [hc, if_neg h9]
            simp only [Option.bind_some, Bool.false_eq_true, if_false]
            obtain ⟨at2, g1, g2, g3, g4⟩ := key_size_eq b 6 (v : Int) (by omega) hb
            rw [show (5 + 1 : Nat) = 6 from rfl, g2]
            simp only [Option.bind_some]
            by_cases hv6 : v = 6
            · rw [if_neg (show ¬ ((v : Int) ≠ 6) by omega), if_neg (show ¬ (v ≠ 6) by omega)]
              by_cases h10 : b.length < 10
              · rw [if_pos (show b.length < 6 + 4 by omega), if_pos h10, if_pos (by decide)]
                simp only [parseR, zeroKey_tup]
              · rw [if_neg (show ¬ b.length < 6 + 4 by omega), if_neg h10]
                by_cases hs : beval ((b.drop 6).take 4) = b.length - 10
                · rw [if_neg (show ¬ (beval ((b.drop 6).take 4) ≠ b.length - (6 + 4)) by simpa using hs), if_neg (show ¬ ¬ (beval ((b.drop 6).take 4) = b.length - 10) by simpa using hs)]
                  rw [if_neg (by decide), cur_rest_eq b at2 g1 (by omega), g3 (by omega) (by omega)]
                  simp only [Option.bind_some, all_eq]
                  rw [key_fill_eq _ _ _ _ (by simp; omega)]
                  simp only [Option.bind_some]
                  have hf : ∀ (o : Nat ⊕ KeyM) , (∀ k, o = .inr k → k.pt.length = 32) → ((parseR o).1.1, (parseR o).1.2.1, (parseR o).1.2.2.1, (parseR o).1.2.2.2.1, (parseR o).1.2.2.2.2.1, fitI (parseR o).1.2.2.2.2.2 0 32) = (parseR o).1 := by
                    intro o ho
                    cases o with
                    | inl e => simp only [parseR, KeyM.tup]; rw [fitI_intB (by decide)]
                    | inr k => simp only [parseR, KeyM.tup]; rw [fitI_intB (ho k rfl)]
                  rw [hf]
                  · intro k hk
                    unfold keyFill at hk
                    split at hk
                    · split at hk
                      · cases hk; assumption
                      · cases hk
                    · split at hk
                      · cases hk
                      · cases hk; rfl
                · rw [if_pos (show (beval ((b.drop 6).take 4) ≠ b.length - (6 + 4)) by simpa using hs), if_pos (show ¬ (beval ((b.drop 6).take 4) = b.length - 10) by simpa using hs), if_pos (by decide)]
                  simp only [parseR, zeroKey_tup]
            · rw [if_pos (show (v : Int) ≠ 6 by omega), if_pos hv6, if_neg (by decide), cur_rest_eq b at2 g1 (by omega), g4 (by omega)]
              simp only [Option.bind_some, all_eq]
              rw [key_fill_eq _ _ _ _ (by simp; omega)]
              simp only [Option.bind_some]
              have hf : ∀ (o : Nat ⊕ KeyM) , (∀ k, o = .inr k → k.pt.length = 32) → ((parseR o).1.1, (parseR o).1.2.1, (parseR o).1.2.2.1, (parseR o).1.2.2.2.1, (parseR o).1.2.2.2.2.1, fitI (parseR o).1.2.2.2.2.2 0 32) = (parseR o).1 := by
                intro o ho
                cases o with
                | inl e => simp only [parseR, KeyM.tup]; rw [fitI_intB (by decide)]
                | inr k => simp only [parseR, KeyM.tup]; rw [fitI_intB (ho k rfl)]
              rw [hf]
              · intro k hk
                unfold keyFill at hk
                split at hk
                · split at hk
                  · cases hk; assumption
                  · cases hk
                · split at hk
                  · cases hk
                  · cases hk; rfl
end Go.Proofs.Ytffofdfikmpanaa.A
namespace Go.Proofs.Ytffofdfikmpanaa.A
set_option linter.unusedVariables false
set_option linter.unusedSimpArgs false
set_option maxRecDepth 10000
theorem alive23 : F_affiantlaw23_alive () = some true := by
  unfold F_affiantlaw23_alive
  have e1 := key_image_eq ⟨4, 0, 27, [], [], zero32⟩ ⟨by decide, by decide, by decide, by decide, by decide, fun _ h => (by cases h), fun _ h => (by cases h), by decide, by decide, by decide⟩
  have ht : (KeyM.mk 4 0 27 [] [] zero32).tup = (4, 0, 27, nilV, nilV, rep 32 0) := by unfold KeyM.tup; rw [intB_zero]; rfl
  rw [ht, if_pos (by decide +kernel)] at e1
  rw [e1]
  have e2 := key_parse_eq [3] (by decide)
  rw [show bytesV [3] = [V.int .u8 3] from rfl, show keyParse [3] = .inl 3 by rw [keyParse, if_neg (by decide), if_pos (by decide)]] at e2
  simp only [Option.bind_some]
  rw [e2]
  simp only [Option.bind_some, parseR]
  have hi : (KeyM.mk 4 0 27 [] [] zero32).image = [153, 0, 38, 4, 0, 0, 0, 0, 27] ++ zero32 := by decide +kernel
  rw [hi]
  decide +kernel
theorem small23 (k : KeyM) : F_affiantref23_Small (k.ver, (k.cr : Int), k.alg, numV .u32 k.n, numV .u32 k.e, intB k.pt) = some (decide (k.n.length ≤ 520 ∧ k.e.length ≤ 520)) := by
  unfold F_affiantref23_Small
  simp only [len_numV, decide_eq_true_eq]
  by_cases h : k.n.length ≤ 520
  · rw [if_pos (by omega)]
    simp only [Option.bind_some]
    refine congrArg some (decide_eq_decide.2 ?_); omega
  · rw [if_neg (by omega)]
    simp only [Option.bind_some]
    refine congrArg some (Eq.symm (decide_eq_false ?_)); omega
structure KeyM.Ok0 (k : KeyM) : Prop where
  v1 : -9223372036854775808 ≤ k.ver
  v2 : k.ver ≤ 9223372036854775807
  c : k.cr < 4294967296
  a1 : -9223372036854775808 ≤ k.alg
  a2 : k.alg ≤ 9223372036854775807
  n : isW k.n
  e : isW k.e
  p : k.pt.length = 32
theorem KeyM.Ok0.ok {k : KeyM} (h : k.Ok0) (hn : k.n.length ≤ 100000) (he : k.e.length ≤ 100000) : k.Ok := ⟨h.v1, h.v2, h.c, h.a1, h.a2, h.n, h.e, hn, he, h.p⟩
end Go.Proofs.Ytffofdfikmpanaa.A
namespace Go.Proofs.Ytffofdfikmpanaa.A
set_option linter.unusedVariables false
set_option linter.unusedSimpArgs false
set_option maxRecDepth 10000
theorem r01_put_eq (b : List UInt8) (n w : Nat) (h1 : 1 ≤ w) (h8 : w ≤ 8) (hn : n < 256 ^ w) (hb : b.length ≤ 2000000000) : F_affiantref01_Put (bytesV b, (n : Int), (w : Int)) = some (bytesV (b ++ beN w n), 0) := by
  unfold F_affiantref01_Put
  simp only [decide_eq_true_eq, decide_eq_false_iff_not]
  rw [if_pos (by omega), if_pos (by omega)]
  have e8 : wu64 (w64 (8 * (w : Int))) = ((8 * w : Nat) : Int) := by
    rw [w64_in (by omega) (by omega), show (8 * (w : Int)) = ((8 * w : Nat) : Int) by omega, wu64_nat, Nat.mod_eq_of_lt (by omega)]
  have hc : (if (w : Int) < 8 then if wu64 (w64 (8 * (w : Int))) < 0 then none else some (decide ((n : Int) ≥ wordShl .u64 1 (wu64 (w64 (8 * (w : Int)))))) else some false : Option Bool) = some false := by
    split
    · rename_i hw
      rw [e8, if_neg (by omega), show (1 : Int) = ((1 : Nat) : Int) from rfl, wordShl_u64 _ _ (by omega), Nat.one_mul, Nat.pow_mul]
      have : (2 ^ 8) ^ w ≤ (2 ^ 8) ^ 7 := Nat.pow_le_pow_right (by decide) (by omega)
      have h7 : ((2 : Nat) ^ 8) ^ 7 < 18446744073709551616 := by decide
      rw [Nat.mod_eq_of_lt (by omega)]
      have hn' : n < (2 ^ 8) ^ w := hn
      refine congrArg some (decide_eq_false ?_)
      omega
    · rfl
  rw [hc]
  simp only [Option.bind_some, Bool.false_eq_true, if_false, bytesV_length]
  rw [if_pos (by omega)]
  have e2 : w64 ((w : Int) - 1) = (w : Int) - 1 := w64_in (by omega) (by omega)
  rw [e2]
  refine (congrArg (loopO _) ?_).trans (loopO_run (ι := Nat) (fun j => ((n : Int), bytesV (b ++ (beN w n).take j), (w : Int) - 1 - (j : Int))) (fun _ => (bytesV (b ++ beN w n), 0)) (fun j => j ≤ w) (fun j => w - j) ?_ 0 (Nat.zero_le _))
  · simp
  intro j hj
  dsimp only
  by_cases h : j < w
  · left
    refine ⟨j + 1, ?_, h, by omega, rfl⟩
    have e9 : wu64 (w64 (8 * ((w : Int) - 1 - (j : Int)))) = ((8 * (w - 1 - j) : Nat) : Int) := by
      rw [w64_in (by omega) (by omega), show (8 * ((w : Int) - 1 - (j : Int))) = ((8 * (w - 1 - j) : Nat) : Int) by omega, wu64_nat, Nat.mod_eq_of_lt (by omega)]
    rw [if_pos (by omega), e9, if_neg (by omega)]
    simp only [all_eq, bytesV_length, List.length_append, List.length_take, beN_length]
    rw [if_pos (by omega), wordShr_u64 _ _ (by omega), wu8_nat, byteV_of, Nat.pow_mul]
    have ht : (beN w n).take (j + 1) = (beN w n).take j ++ [UInt8.ofNat (n / 256 ^ (w - 1 - j))] := by
      rw [List.take_add_one, beN_get h]; rfl
    rw [ht, ← List.append_assoc, bytesV_append (b ++ _), w64_in (by omega) (by omega)]
    rw [show (w : Int) - 1 - (j : Int) - 1 = (w : Int) - 1 - ((j + 1 : Nat) : Int) by omega]
    rfl
  · right
    rw [if_neg (by omega), all_eq, List.take_of_length_le (by rw [beN_length]; omega)]
theorem dig_nil {B n : Nat} (hB : 2 ≤ B) : dig B n = [] ↔ n = 0 := by
  constructor
  · intro h; rw [← val_dig hB n, h]; rfl
  · rintro rfl; rfl
theorem getLast_getD {l : List Nat} (h : l ≠ []) : l.getLast? = some (l.getD (l.length - 1) 0) := by
  have hp : l.length ≠ 0 := fun h0 => h (List.eq_nil_of_length_eq_zero h0)
  rw [List.getLast?_eq_getElem?, List.getD_eq_getElem?_getD, List.getElem?_eq_getElem (by omega)]; rfl
theorem r04_bits_eq (l : List Nat) (hl : isW l) (hn : l.length ≤ 100000) : F_affiantref04_Bits (numV .u32 l) = some ((bitlen (val W32 l) : Nat) : Int) := by
  unfold F_affiantref04_Bits
  rw [r04_Digits_eq l hl (by omega)]
  simp only [Option.bind_some, len_numV, beq_iff_eq, decide_eq_true_eq]
  have hdl := dig16_length hl
  generalize hV : val W32 l = v at hdl ⊢
  by_cases h0 : v = 0
  · subst h0
    rw [if_pos (by rw [dig_zero]; rfl)]; rfl
  · have hne : dig B16 v ≠ [] := fun h => h0 ((dig_nil (by decide)).1 h)
    have hlen : (dig B16 v).length ≠ 0 := fun h => hne (List.eq_nil_of_length_eq_zero h)
    generalize hd : dig B16 v = d at hne hlen hdl
    have hisd : isD d := hd ▸ isD_dig v
    have hlast : d.getD (d.length - 1) 0 ≠ 0 := by
      have := dig_last (B := B16) (by decide) v
      rw [hd, getLast_getD hne] at this
      exact fun h => this (by rw [h])
    have e1 : w64 ((d.length : Int) - 1) = ((d.length - 1 : Nat) : Int) := by rw [w64_in (by omega) (by omega)]; omega
    rw [if_neg (by omega), e1, if_pos (by omega), Int.toNat_natCast, numV_getD (by omega)]
    simp only [Option.bind_some, int?_int]
    generalize hx : d.getD (d.length - 1) 0 = x at hlast
    have hx2 : x < 65536 := hx ▸ hisd.getD _
    have hv : v = val B16 (d.take (d.length - 1)) + 2 ^ (16 * (d.length - 1)) * x := by
      have h2 : d = d.take (d.length - 1) ++ [x] := by
        have := take_snoc (l := d) (i := d.length - 1) (by omega)
        rw [hx, show d.length - 1 + 1 = d.length by omega, List.take_length] at this
        exact this
      conv => lhs; rw [← val_dig (B := B16) (by decide) v, hd, h2, val_append]
      rw [List.length_take, Nat.min_eq_left (by omega), show B16 = 2 ^ 16 by decide, ← Nat.pow_mul]
      simp [val]
    have hlow : val B16 (d.take (d.length - 1)) < 2 ^ (16 * (d.length - 1)) := by
      have := val_lt (B := B16) (l := d.take (d.length - 1)) fun y hy => hisd y (List.mem_of_mem_take hy)
      rw [List.length_take, Nat.min_eq_left (by omega), show B16 = 2 ^ 16 by decide, ← Nat.pow_mul] at this
      exact this
    have hb : bitlen v = 16 * (d.length - 1) + bitlen x := by rw [hv]; exact bitlen_top (k := 0) hlast hlow
    have e2 : w64 (16 * ((d.length - 1 : Nat) : Int)) = ((16 * (d.length - 1) : Nat) : Int) := by rw [w64_in (by omega) (by omega)]; omega
    rw [e2, hb]
    have hbx : bitlen x ≤ 16 := bitlen_le.2 hx2
    refine loopO_run (ι := Nat × Nat) (fun i => ((i.1 : Int), (i.2 : Int))) (fun i => ((i.1 + bitlen i.2 : Nat) : Int)) (fun i => i.1 ≤ 10000000 ∧ i.2 < 65536 ∧ i.1 + bitlen i.2 ≤ 10000000) (fun i => i.2) ?_ (16 * (d.length - 1), x) ⟨by dsimp only; omega, hx2, by dsimp only; omega⟩
    rintro ⟨n, y⟩ ⟨h1, h2, h3⟩
    dsimp only at h1 h2 h3 ⊢
    by_cases hy : y = 0
    · right
      subst hy
      rw [if_neg (by omega)]; rfl
    · left
      have hby : bitlen y = 1 + bitlen (y / 2) := by
        rcases Nat.lt_or_ge y 2 with h4 | h4
        · rw [show y = 1 by omega]; rfl
        · have := bitlen_shift (n := y) (k := 1) (by omega)
          rw [Nat.pow_one] at this
          exact this
      refine ⟨(n + 1, y / 2), ?_, ⟨by dsimp only; omega, by dsimp only; omega, by dsimp only; omega⟩, by dsimp only; omega, by dsimp only; rw [hby]; omega⟩
      rw [if_pos (by omega), w64_in (by omega) (by omega), show (2 : Int) = ((2 : Nat) : Int) from rfl, i64_tdiv, wu64_nat, Nat.mod_eq_of_lt (by omega)]
      rfl
theorem byte_of_digit {l : List Nat} (hl : isD l) (i : Nat) : (if i % 2 = 1 then l.getD (i / 2) 0 / 256 else l.getD (i / 2) 0) % 256 = val B16 l / 256 ^ i % 256 := by
  rw [← val_digit (by decide) hl]
  generalize val B16 l = v
  have h1 : v / 256 ^ i = v / B16 ^ (i / 2) / 256 ^ (i % 2) := by
    conv => lhs; rw [← Nat.div_add_mod i 2]
    rw [Nat.pow_add, ← Nat.div_div_eq_div_mul, Nat.pow_mul]
  rw [h1]
  generalize v / B16 ^ (i / 2) = x
  show (if i % 2 = 1 then x % 65536 / 256 else x % 65536) % 256 = x / 256 ^ (i % 2) % 256
  have hc : i % 2 = 0 ∨ i % 2 = 1 := by omega
  rcases hc with h | h <;> rw [h] <;> simp <;> omega
theorem r04_fill_eq (l : List Nat) (n : Nat) (hl : isD l) (hn : n ≤ 2147483648) : F_affiantref04_fill (numV .u64 l, (n : Int)) = some (bytesV (beN n (val B16 l))) := by
  unfold F_affiantref04_fill
  simp only [decide_eq_true_eq, beq_iff_eq]
  rw [if_pos (by omega)]
  refine (congrArg (loopO _) ?_).trans (loopO_run (ι := Nat) (fun i => (numV .u64 l, (n : Int), bytesV (List.replicate (n - i) 0 ++ beN i (val B16 l)), (i : Int))) (fun _ => bytesV (beN n (val B16 l))) (fun i => i ≤ n) (fun i => n - i) ?_ 0 (Nat.zero_le _))
  · simp only [beN, List.append_nil, Nat.sub_zero, bytesV_replicate, byteV_zero, rep, Int.toNat_natCast]; rfl
  intro i hi
  dsimp only
  by_cases h : i < n
  · left
    refine ⟨i + 1, ?_, h, by omega, rfl⟩
    rw [if_pos (by omega), show (2 : Int) = ((2 : Nat) : Int) from rfl, i64_tdiv, i64_tmod, w64_nat (n := i / 2) (by omega), r04_digit_eq]
    simp only [Option.bind_some]
    have hx : l.getD (i / 2) 0 < 65536 := hl.getD _
    have hc : (if ((i % 2 : Nat) : Int) = 1 then some (.inl (wu64 (Int.tdiv ((l.getD (i / 2) 0 : Nat) : Int) 256))) else some (.inl ((l.getD (i / 2) 0 : Nat) : Int)) : Option (Int ⊕ ((List V × Int × List V × Int) ⊕ List V))) =
        some (.inl (((if i % 2 = 1 then l.getD (i / 2) 0 / 256 else l.getD (i / 2) 0 : Nat)) : Int)) := by
      by_cases h2 : i % 2 = 1
      · rw [if_pos (by omega), if_pos h2, show (256 : Int) = ((256 : Nat) : Int) from rfl, i64_tdiv, wu64_nat, Nat.mod_eq_of_lt (by omega)]
      · rw [if_neg (by omega), if_neg h2]
    rw [hc]
    have e1 : w64 (w64 ((n : Int) - 1) - (i : Int)) = ((n - 1 - i : Nat) : Int) := by rw [w64_in (n := (n : Int) - 1) (by omega) (by omega), w64_in (by omega) (by omega)]; omega
    simp only [Option.bind_some, e1, len_bytesV, List.length_append, List.length_replicate, beN_length, Int.toNat_natCast, Nat.zero_add]
    rw [if_pos (by omega), bytesV_getD (by simp [beN_length]; omega)]
    simp only [Option.bind_some, cells_int, storeEl_byte]
    rw [wu8_nat, byte_of_digit hl, byteV_of, bytesV_set, show n - i = (n - 1 - i) + 1 by omega, set_repl]
    have e2 : w64 ((i : Int) + 1) = ((i + 1 : Nat) : Int) := w64_in (by omega) (by omega)
    rw [e2, show n - (i + 1) = n - 1 - i by omega]; rfl
  · right
    rw [if_neg (by omega), all_eq, show n - i = 0 by omega, show i = n by omega]
    rfl
theorem r04_bytes_eq (l : List Nat) (hl : isW l) (hn : l.length ≤ 100000) : F_affiantref04_Bytes (numV .u32 l) = some (bytesV (be (val W32 l))) := by
  unfold F_affiantref04_Bytes
  have hb := bitlen_val_le hl
  rw [r04_Digits_eq l hl (by omega), r04_bits_eq l hl hn]
  simp only [Option.bind_some]
  rw [w64_in (n := ((bitlen (val W32 l) : Nat) : Int) + 7) (by omega) (by omega), show ((bitlen (val W32 l) : Nat) : Int) + 7 = ((bitlen (val W32 l) + 7 : Nat) : Int) by omega, show (8 : Int) = ((8 : Nat) : Int) from rfl, i64_tdiv, w64_nat (by omega), r04_fill_eq _ _ (isD_dig _) (by omega), val_dig (by decide)]
  rfl
theorem r20_put_eq (b : List UInt8) (l : List Nat) (hl : isW l) (hn : l.length ≤ 100000) (hb : b.length ≤ 1000000000) : F_affiantref20_Put (bytesV b, numV .u32 l) = some (if bitlen (val W32 l) ≤ 16384 then (bytesV (b ++ mpiB (val W32 l)), 0) else (nilV, 4)) := by
  unfold F_affiantref20_Put
  simp only [decide_eq_true_eq]
  rw [r04_bits_eq l hl hn]
  simp only [Option.bind_some]
  by_cases h : bitlen (val W32 l) ≤ 16384
  · rw [if_neg (by omega), if_pos h, wu64_nat, Nat.mod_eq_of_lt (by omega)]
    have := r01_put_eq b (bitlen (val W32 l)) 2 (by omega) (by omega) (by omega) (by omega)
    rw [show ((2 : Nat) : Int) = 2 from rfl] at this
    rw [this]
    simp only [Option.bind_some]
    rw [r04_bytes_eq l hl hn]
    simp only [Option.bind_some, all_eq, bytesV_length, List.length_append, beN_length, be_length]
    rw [if_pos (by omega), mpiB, ← List.append_assoc, bytesV_append (b ++ _)]
  · rw [if_pos (by omega), if_neg h]
end Go.Proofs.Ytffofdfikmpanaa.A
namespace Go.Proofs.Ytffofdfikmpanaa.A
set_option linter.unusedVariables false
set_option linter.unusedSimpArgs false
set_option maxRecDepth 10000
theorem r23_may_eq (k : KeyM) (h : k.Ok) : F_affiantref23_may k.tup = some (decide k.may) := by
  unfold F_affiantref23_may KeyM.tup
  simp only [fitI_intB h.p, bne_iff_ne, beq_iff_eq, len_numV]
  have hnl := h.nl; have hel := h.el
  by_cases hv : k.ver = 4 ∨ k.ver = 6
  · have h0 : (if k.ver ≠ 4 then some (k.ver != 6) else some false : Option Bool) = some false := by
      rcases hv with h | h <;> simp [h]
    rw [h0]
    simp only [Option.bind_some, Bool.false_eq_true, if_false]
    by_cases h27 : k.alg = 27
    · rw [if_pos h27]
      split
      · rename_i g
        simp only [Option.bind_some]
        refine (congrArg some (show ((k.e.length : Int) == 0) = decide ((k.e.length : Int) = 0) from rfl)).trans (iff_may ⟨?_, ?_⟩)
        · exact fun q => ⟨hv, .inr ⟨h27, List.eq_nil_of_length_eq_zero (by omega), List.eq_nil_of_length_eq_zero (by omega)⟩⟩
        · rintro ⟨_, ⟨q, _⟩ | ⟨_, _, q⟩⟩
          · omega
          · rw [q]; rfl
      · rename_i g
        simp only [Option.bind_some]
        refine no_may ?_
        rintro ⟨_, ⟨q, _⟩ | ⟨_, q, _⟩⟩
        · omega
        · exact g (by rw [q]; rfl)
    · rw [if_neg h27]
      by_cases h1 : k.alg = 1
      · rw [if_pos h1]
        by_cases hz : k.pt = zero32
        · rw [if_pos (by rw [hz, intB_zero]), r04_bits_eq _ h.n hnl, r04_bits_eq _ h.e hel]
          simp only [Option.bind_some, decide_eq_true_eq]
          split
          · rename_i g
            simp only [Option.bind_some]
            refine iff_may ⟨fun q => ⟨hv, .inl ⟨h1, hz, (by unfold KeyM.N; omega), (by unfold KeyM.E; omega)⟩⟩, ?_⟩
            rintro ⟨_, ⟨_, _, _, q⟩ | ⟨q, _⟩⟩
            · unfold KeyM.E at q; omega
            · omega
          · rename_i g
            simp only [Option.bind_some]
            refine no_may ?_
            rintro ⟨_, ⟨_, _, q, _⟩ | ⟨q, _⟩⟩
            · unfold KeyM.N at q; omega
            · omega
        · rw [if_neg (fun g => hz (intB_inj (g.trans intB_zero.symm)))]
          simp only [Option.bind_some]
          refine no_may ?_
          rintro ⟨_, ⟨_, q, _⟩ | ⟨q, _⟩⟩
          · exact hz q
          · omega
      · rw [if_neg h1]
        simp only [Option.bind_some]
        refine no_may ?_
        rintro ⟨_, ⟨q, _⟩ | ⟨q, _⟩⟩
        · exact h1 q
        · exact h27 q
  · have h0 : (if k.ver ≠ 4 then some (k.ver != 6) else some false : Option Bool) = some true := by
      rw [if_pos (fun g => hv (.inl g))]; simp only [Option.some.injEq, bne_iff_ne]; exact fun g => hv (.inr g)
    rw [h0]
    simp only [Option.bind_some, if_true]
    exact no_may fun g => hv g.1
theorem r23_material_eq (k : KeyM) (h : k.Ok) (hm : k.may) : F_affiantref23_material k.tup = some (bytesV k.mat) := by
  unfold F_affiantref23_material KeyM.tup
  simp only [beq_iff_eq]
  unfold KeyM.mat
  have hnl := h.nl; have hel := h.el
  obtain ⟨_, ⟨h1, _, h2, h3⟩ | ⟨h1, _⟩⟩ := hm
  · rw [if_neg (by omega), if_neg (by omega)]
    have e1 := r20_put_eq [] k.n h.n hnl (by simp)
    rw [show val W32 k.n = k.N from rfl, if_pos h2] at e1
    rw [show (nilV, numV .u32 k.n) = (bytesV [], numV .u32 k.n) from rfl, e1]
    simp only [Option.bind_some, all_eq, List.nil_append]
    have e2 := r20_put_eq (mpiB k.N) k.e h.e hel (by rw [mpiB_length]; omega)
    rw [show val W32 k.e = k.E from rfl, if_pos h3] at e2
    rw [e2]
    simp only [Option.bind_some, all_eq]
  · rw [if_pos h1, if_pos h1]
    simp only [List.drop_succ_cons, List.drop_zero, arrV_intB h.p]
    rw [List.take_of_length_le (by rw [bytesV_length, h.p]; exact Nat.le_refl _)]
theorem r01_put4 (b : List UInt8) (n : Nat) (hn : n < 4294967296) (hb : b.length ≤ 2000000000) : F_affiantref01_Put (bytesV b, (n : Int), 4) = some (bytesV (b ++ beN 4 n), 0) := r01_put_eq b n 4 (by omega) (by omega) (by omega) hb
theorem r01_put2 (b : List UInt8) (n : Nat) (hn : n < 65536) (hb : b.length ≤ 2000000000) : F_affiantref01_Put (bytesV b, (n : Int), 2) = some (bytesV (b ++ beN 2 n), 0) := r01_put_eq b n 2 (by omega) (by omega) (by omega) hb
theorem r23_emit_eq (k : KeyM) (h : k.Ok) : F_affiantref23_Emit k.tup = some (if k.may then (bytesV k.body, 0) else (nilV, 1)) := by
  have hmay := r23_may_eq k h
  have hmat := r23_material_eq k h
  unfold KeyM.tup at hmay hmat
  unfold F_affiantref23_Emit KeyM.tup
  simp only [fitI_intB h.p]
  rw [hmay]
  simp only [Option.bind_some, Bool.not_eq_true', decide_eq_false_iff_not, beq_iff_eq]
  by_cases hm : k.may
  · rw [if_neg (by simpa using hm), if_pos hm]
    have hl := KeyM.mat_length h hm
    have hv : 0 ≤ k.ver ∧ k.ver < 256 := by obtain ⟨h | h, _⟩ := hm <;> omega
    have ha : 0 ≤ k.alg ∧ k.alg < 256 := by obtain ⟨_, ⟨h, _⟩ | ⟨h, _⟩⟩ := hm <;> omega
    have hc := h.c
    rw [one_byte hv.1 hv.2, one_byte ha.1 ha.2, wu64_nat, Nat.mod_eq_of_lt (by omega), show [byteV (UInt8.ofNat k.ver.toNat)] = bytesV [UInt8.ofNat k.ver.toNat] from rfl, r01_put4 _ _ hc (by simp)]
    simp only [Option.bind_some, bytesV_length, List.length_append, List.length_cons, List.length_nil, beN_length, all_eq]
    rw [if_pos (by omega), hmat hm, show bytesV ([UInt8.ofNat k.ver.toNat] ++ beN 4 k.cr) ++ [byteV (UInt8.ofNat k.alg.toNat)] = bytesV ([UInt8.ofNat k.ver.toNat] ++ beN 4 k.cr ++ [UInt8.ofNat k.alg.toNat]) from (bytesV_append _ [_]).symm]
    simp only [Option.bind_some]
    by_cases h6 : k.ver = 6
    · rw [if_pos h6, len_bytesV, wu64_nat, Nat.mod_eq_of_lt (by omega), r01_put4 _ _ (by omega) (by simp [beN_length])]
      simp only [Option.bind_some, bytesV_length, List.length_append, List.length_cons, List.length_nil, beN_length]
      rw [if_pos (by omega), ← bytesV_append]
      simp only [KeyM.body, if_pos h6]
    · rw [if_neg h6]
      simp only [Option.bind_some, bytesV_length, List.length_append, List.length_cons, List.length_nil, beN_length]
      rw [if_pos (by omega), ← bytesV_append]
      simp only [KeyM.body, if_neg h6, List.append_nil]
  · rw [if_pos (by simpa using hm), if_neg hm]
theorem r23_image_eq (k : KeyM) (h : k.Ok) : F_affiantref23_Image k.tup = some (if k.may then (bytesV k.image, 0) else (nilV, 1)) := by
  have hem := r23_emit_eq k h
  unfold KeyM.tup at hem
  unfold F_affiantref23_Image KeyM.tup
  simp only [fitI_intB h.p]
  rw [hem]
  simp only [Option.bind_some, bne_iff_ne, ne_eq, beq_iff_eq]
  by_cases hm : k.may
  · have hl := KeyM.body_length h hm
    simp only [if_pos hm, not_true_eq_false, if_false, all_eq, len_bytesV, bytesV_length]
    unfold KeyM.image
    by_cases h6 : k.ver = 6
    · rw [if_pos h6, if_pos h6]
      simp only [Option.bind_some]
      rw [show [V.int .u8 155] = bytesV [155] from rfl, wu64_nat, Nat.mod_eq_of_lt (by omega), r01_put4 _ _ (by omega) (by simp)]
      simp only [Option.bind_some, bytesV_length, List.length_append, List.length_cons, List.length_nil, beN_length]
      rw [if_pos (by omega), ← bytesV_append]
    · rw [if_neg h6, if_neg h6]
      simp only [Option.bind_some]
      rw [show [V.int .u8 153] = bytesV [153] from rfl, wu64_nat, Nat.mod_eq_of_lt (by omega), r01_put2 _ _ (by omega) (by simp)]
      simp only [Option.bind_some, bytesV_length, List.length_append, List.length_cons, List.length_nil, beN_length]
      rw [if_pos (by omega), ← bytesV_append]
  · simp only [if_neg hm]
    rw [if_pos (by omega)]
end Go.Proofs.Ytffofdfikmpanaa.A
namespace Go.Proofs.Ytffofdfikmpanaa.A
set_option linter.unusedVariables false
set_option linter.unusedSimpArgs false
set_option maxRecDepth 10000
def nT (k : IntKind) (l : List Nat) : List T := (numV k l).map T.p
@[simp] theorem nT_length (k : IntKind) (l : List Nat) : (nT k l).length = l.length := by simp [nT]
theorem nT_get {k : IntKind} {l : List Nat} {i : Nat} (h : i < l.length) : (nT k l)[i]? = some (T.p (.int k ((l.getD i 0 : Nat) : Int))) := by
  simp only [nT, List.getElem?_map, numV_getD h]; rfl
theorem nT_set (k : IntKind) (l : List Nat) (i n : Nat) : (nT k l).set i (T.p (.int k (n : Int))) = nT k (l.set i n) := by
  simp only [nT, ← numV_set, List.map_set]
theorem pures_nT (k : IntKind) (l : List Nat) : elemsS.T.pures (nT k l) = some (numV k l) := by
  unfold nT
  generalize numV k l = m
  induction m with
  | nil => rfl
  | cons v m ih => simp only [List.map_cons, elemsS.T.pures, ih]
theorem pures_map_p (m : List V) : elemsS.T.pures (m.map T.p) = some m := by
  induction m with
  | nil => rfl
  | cons v m ih => simp only [List.map_cons, elemsS.T.pures, ih]
theorem one_bytesV (l : List UInt8) : (bytesV l).all V.one = true := by
  rw [List.all_eq_true]; intro v hv
  simp only [bytesV, List.mem_map] at hv
  obtain ⟨n, _, rfl⟩ := hv; rfl
theorem stab_numV (k : IntKind) : ∀ l : List Nat, V.stabL (numV k l) = true
  | [] => rfl
  | n :: l => by
    have := stab_numV k l
    simp only [numV, List.map_cons, V.stabL, V.stab, Bool.true_and] at this ⊢; exact this
@[simp] theorem numV_length' (k : IntKind) (l : List Nat) : (numV k l).length = l.length := by simp [numV]
def ld (q : Nat) (b : List UInt8) (i j : Nat) : Nat := beval (((b.take i).drop (q * j)).take q)
def lds (q n : Nat) (b : List UInt8) (i : Nat) : List Nat := (List.range n).map (ld q b i)
@[simp] theorem lds_length (q n : Nat) (b : List UInt8) (i : Nat) : (lds q n b i).length = n := by simp [lds]
def wgen (n0 : Nat) (w0 : Nat → Nat) (f : (Nat → Nat) → Nat → Nat) : Nat → List Nat
  | 0 => []
  | t + 1 => wgen n0 w0 f t ++ [if t < n0 then w0 t else f (fun j => (wgen n0 w0 f t).getD j 0) t]
@[simp] theorem wgen_length (n0 : Nat) (w0 : Nat → Nat) (f : (Nat → Nat) → Nat → Nat) : ∀ t, (wgen n0 w0 f t).length = t
  | 0 => rfl
  | t + 1 => by simp [wgen, wgen_length n0 w0 f t]
end Go.Proofs.Ytffofdfikmpanaa.A
namespace Go.Proofs.Ytffofdfikmpanaa.A
set_option linter.unusedVariables false
set_option linter.unusedSimpArgs false
set_option maxRecDepth 10000
theorem ite_step {α : Type} {c : Prop} [Decidable c] {t e r : α} (h : c) (ht : t = r) : ite c t e = r := by rw [if_pos h]; exact ht
def natR (l : List Nat) : List Int := l.map Int.ofNat
def el (x : Nat) : List Int := [((x % 18446744073709551616 : Nat) : Int), ((x / 18446744073709551616 % 18446744073709551616 : Nat) : Int), ((x / 18446744073709551616 / 18446744073709551616 % 18446744073709551616 : Nat) : Int), ((x / 18446744073709551616 / 18446744073709551616 / 18446744073709551616 % 18446744073709551616 : Nat) : Int)]
theorem el_row (x : Nat) : [List.getD (el x) 0 0, List.getD (el x) 1 0, List.getD (el x) 2 0, List.getD (el x) 3 0] = el x := rfl
theorem adc_nat (x y c : Nat) : adc (x : Int) (y : Int) (c : Int) = (((x + y + c) % 18446744073709551616 : Nat) : Int) := by unfold adc; omega
theorem adcC_nat (x y c : Nat) : adcC (x : Int) (y : Int) (c : Int) = (((x + y + c) / 18446744073709551616 : Nat) : Int) := by unfold adcC; omega
theorem adc_nat0 (x y : Nat) : adc (x : Int) (y : Int) 0 = (((x + y) % 18446744073709551616 : Nat) : Int) := by unfold adc; omega
theorem adcC_nat0 (x y : Nat) : adcC (x : Int) (y : Int) 0 = (((x + y) / 18446744073709551616 : Nat) : Int) := by unfold adcC; omega
theorem plus_words (a0 a1 a2 a3 b0 b1 b2 b3 s0 s1 s2 s3 c1 c2 c3 c4 : Nat) (e0 : adc (a0 : Int) (b0 : Int) 0 = (s0 : Int)) (f0 : adcC (a0 : Int) (b0 : Int) 0 = (c1 : Int)) (k1 : c1 ≤ 1)
    (e1 : adc (a1 : Int) (b1 : Int) (c1 : Int) = (s1 : Int)) (f1 : adcC (a1 : Int) (b1 : Int) (c1 : Int) = (c2 : Int)) (k2 : c2 ≤ 1)
    (e2 : adc (a2 : Int) (b2 : Int) (c2 : Int) = (s2 : Int)) (f2 : adcC (a2 : Int) (b2 : Int) (c2 : Int) = (c3 : Int)) (k3 : c3 ≤ 1)
    (e3 : adc (a3 : Int) (b3 : Int) (c3 : Int) = (s3 : Int)) (f3 : adcC (a3 : Int) (b3 : Int) (c3 : Int) = (c4 : Int)) :
    F_field_plus ([(a0 : Int), (a1 : Int), (a2 : Int), (a3 : Int)], [(b0 : Int), (b1 : Int), (b2 : Int), (b3 : Int)]) = some ([(s0 : Int), (s1 : Int), (s2 : Int), (s3 : Int)], (c4 : Int)) := by
  unfold F_field_plus
  simp only [List.getD_cons_zero, List.getD_cons_succ]
  refine (loopO_inl (s' := ([(s0 : Int), (a1 : Int), (a2 : Int), (a3 : Int)], [(b0 : Int), (b1 : Int), (b2 : Int), (b3 : Int)], (c1 : Int), 1)) ?_).trans ?_
  · simp only [List.getD_cons_zero, List.getD_cons_succ]
    iterate 3 refine ite_step (by first | decide | rfl | simp) ?_
    iterate 3 refine bind_to rfl ?_
    iterate 2 refine ite_step (by first | decide | rfl | simp) ?_
    iterate 3 refine bind_to rfl ?_
    refine ite_step ⟨by omega, by omega, by omega, by omega⟩ ?_
    iterate 3 refine ite_step (by first | decide | rfl | simp) ?_
    simp only [e0, f0]; kernel_rfl
  refine (loopO_inl (s' := ([(s0 : Int), (s1 : Int), (a2 : Int), (a3 : Int)], [(b0 : Int), (b1 : Int), (b2 : Int), (b3 : Int)], (c2 : Int), 2)) ?_).trans ?_
  · simp only [List.getD_cons_zero, List.getD_cons_succ]
    iterate 3 refine ite_step (by first | decide | rfl | simp) ?_
    iterate 3 refine bind_to rfl ?_
    iterate 2 refine ite_step (by first | decide | rfl | simp) ?_
    iterate 3 refine bind_to rfl ?_
    refine ite_step ⟨by omega, by omega, by omega, by omega⟩ ?_
    iterate 3 refine ite_step (by first | decide | rfl | simp) ?_
    simp only [e1, f1]; kernel_rfl
  refine (loopO_inl (s' := ([(s0 : Int), (s1 : Int), (s2 : Int), (a3 : Int)], [(b0 : Int), (b1 : Int), (b2 : Int), (b3 : Int)], (c3 : Int), 3)) ?_).trans ?_
  · simp only [List.getD_cons_zero, List.getD_cons_succ]
    iterate 3 refine ite_step (by first | decide | rfl | simp) ?_
    iterate 3 refine bind_to rfl ?_
    iterate 2 refine ite_step (by first | decide | rfl | simp) ?_
    iterate 3 refine bind_to rfl ?_
    refine ite_step ⟨by omega, by omega, by omega, by omega⟩ ?_
    iterate 3 refine ite_step (by first | decide | rfl | simp) ?_
    simp only [e2, f2]; kernel_rfl
  refine (loopO_inl (s' := ([(s0 : Int), (s1 : Int), (s2 : Int), (s3 : Int)], [(b0 : Int), (b1 : Int), (b2 : Int), (b3 : Int)], (c4 : Int), 4)) ?_).trans ?_
  · simp only [List.getD_cons_zero, List.getD_cons_succ]
    iterate 3 refine ite_step (by first | decide | rfl | simp) ?_
    iterate 3 refine bind_to rfl ?_
    iterate 2 refine ite_step (by first | decide | rfl | simp) ?_
    iterate 3 refine bind_to rfl ?_
    refine ite_step ⟨by omega, by omega, by omega, by omega⟩ ?_
    iterate 3 refine ite_step (by first | decide | rfl | simp) ?_
    simp only [e3, f3]; kernel_rfl
  exact loopO_inr rfl
theorem carry_div (a b c : Nat) : (a + b + c) / 18446744073709551616 = a / 18446744073709551616 + b / 18446744073709551616 + (a % 18446744073709551616 + b % 18446744073709551616 + c) / 18446744073709551616 := by omega
theorem carry_mod (a b c : Nat) : (a + b + c) % 18446744073709551616 = (a % 18446744073709551616 + b % 18446744073709551616 + c) % 18446744073709551616 := by omega
def cy (a b c : Nat) : Nat → Nat
  | 0 => c
  | i + 1 => (a / 18446744073709551616 ^ i % 18446744073709551616 + b / 18446744073709551616 ^ i % 18446744073709551616 + cy a b c i) / 18446744073709551616
theorem cy_eq (a b c : Nat) : ∀ i, (a + b + c) / 18446744073709551616 ^ i = a / 18446744073709551616 ^ i + b / 18446744073709551616 ^ i + cy a b c i
  | 0 => by simp [cy]
  | i + 1 => by
    rw [Nat.pow_succ, ← Nat.div_div_eq_div_mul, ← Nat.div_div_eq_div_mul, ← Nat.div_div_eq_div_mul, cy_eq a b c i, carry_div]; rfl
theorem cy_le (a b c : Nat) (h : c ≤ 1) : ∀ i, cy a b c i ≤ 1
  | 0 => h
  | i + 1 => by
    have := cy_le a b c h i
    unfold cy
    have h1 := Nat.mod_lt (a / 18446744073709551616 ^ i) (show 0 < 18446744073709551616 by decide)
    have h2 := Nat.mod_lt (b / 18446744073709551616 ^ i) (show 0 < 18446744073709551616 by decide)
    omega
theorem pow0 (x : Nat) : x / 18446744073709551616 ^ 0 = x := by rw [Nat.pow_zero, Nat.div_one]
theorem pow1 (x : Nat) : x / 18446744073709551616 ^ 1 = x / 18446744073709551616 := by rw [Nat.pow_one]
theorem pow2 (x : Nat) : x / 18446744073709551616 ^ 2 = x / 18446744073709551616 / 18446744073709551616 := by rw [Nat.div_div_eq_div_mul, Nat.pow_two]
theorem pow3 (x : Nat) : x / 18446744073709551616 ^ 3 = x / 18446744073709551616 / 18446744073709551616 / 18446744073709551616 := by rw [Nat.div_div_eq_div_mul, Nat.div_div_eq_div_mul, show 18446744073709551616 ^ 3 = 18446744073709551616 * 18446744073709551616 * 18446744073709551616 from rfl]
theorem elP (x : Nat) : el x = [((x / 18446744073709551616 ^ 0 % 18446744073709551616 : Nat) : Int), ((x / 18446744073709551616 ^ 1 % 18446744073709551616 : Nat) : Int), ((x / 18446744073709551616 ^ 2 % 18446744073709551616 : Nat) : Int), ((x / 18446744073709551616 ^ 3 % 18446744073709551616 : Nat) : Int)] := by
  rw [pow0, pow1, pow2, pow3]; rfl
theorem cy_mod (a b c i : Nat) : (a + b + c) / 18446744073709551616 ^ i % 18446744073709551616 = (a / 18446744073709551616 ^ i % 18446744073709551616 + b / 18446744073709551616 ^ i % 18446744073709551616 + cy a b c i) % 18446744073709551616 := by
  rw [cy_eq, carry_mod]
theorem plus_eq (a b : Nat) (ha : a < 18446744073709551616 ^ 4) (hb : b < 18446744073709551616 ^ 4) :
    F_field_plus (el a, el b) = some (el (a + b), (((a + b) / 18446744073709551616 ^ 4 : Nat) : Int)) := by
  have h4 := cy_eq a b 0 4
  rw [Nat.div_eq_of_lt ha, Nat.div_eq_of_lt hb, Nat.add_zero, Nat.zero_add] at h4
  have hs : ∀ i, (a + b) / 18446744073709551616 ^ i % 18446744073709551616 = (a / 18446744073709551616 ^ i % 18446744073709551616 + b / 18446744073709551616 ^ i % 18446744073709551616 + cy a b 0 i) % 18446744073709551616 := cy_mod a b 0
  rw [elP a, elP b, elP (a + b), hs, hs, hs, hs, h4]
  have hc : ∀ i, adcC ((a / 18446744073709551616 ^ i % 18446744073709551616 : Nat) : Int) ((b / 18446744073709551616 ^ i % 18446744073709551616 : Nat) : Int) (cy a b 0 i : Nat) = ((cy a b 0 (i + 1) : Nat) : Int) := fun i => adcC_nat _ _ _
  exact plus_words _ _ _ _ _ _ _ _ _ _ _ _ _ _ _ _ (adc_nat _ _ 0) (hc 0) (cy_le a b 0 (by decide) 1) (adc_nat _ _ _) (hc 1) (cy_le a b 0 (by decide) 2) (adc_nat _ _ _) (hc 2) (cy_le a b 0 (by decide) 3) (adc_nat _ _ _) (hc 3)
end Go.Proofs.Ytffofdfikmpanaa.A
namespace Go.Proofs.Ytffofdfikmpanaa.A
set_option linter.unusedVariables false
set_option linter.unusedSimpArgs false
set_option maxRecDepth 10000
theorem minus_words (a0 a1 a2 a3 b0 b1 b2 b3 s0 s1 s2 s3 c1 c2 c3 c4 : Nat) (hb0 : b0 < 18446744073709551616) (hb1 : b1 < 18446744073709551616) (hb2 : b2 < 18446744073709551616) (hb3 : b3 < 18446744073709551616)
    (e0 : sbb (a0 : Int) (b0 : Int) 0 = (s0 : Int)) (f0 : sbbC (a0 : Int) (b0 : Int) 0 = (c1 : Int)) (k1 : c1 ≤ 1)
    (e1 : sbb (a1 : Int) (b1 : Int) (c1 : Int) = (s1 : Int)) (f1 : sbbC (a1 : Int) (b1 : Int) (c1 : Int) = (c2 : Int)) (k2 : c2 ≤ 1)
    (e2 : sbb (a2 : Int) (b2 : Int) (c2 : Int) = (s2 : Int)) (f2 : sbbC (a2 : Int) (b2 : Int) (c2 : Int) = (c3 : Int)) (k3 : c3 ≤ 1)
    (e3 : sbb (a3 : Int) (b3 : Int) (c3 : Int) = (s3 : Int)) (f3 : sbbC (a3 : Int) (b3 : Int) (c3 : Int) = (c4 : Int)) :
    F_field_minus ([(a0 : Int), (a1 : Int), (a2 : Int), (a3 : Int)], [(b0 : Int), (b1 : Int), (b2 : Int), (b3 : Int)]) = some ([(s0 : Int), (s1 : Int), (s2 : Int), (s3 : Int)], (c4 : Int)) := by
  unfold F_field_minus
  simp only [List.getD_cons_zero, List.getD_cons_succ]
  refine (loopO_inl (s' := ([(s0 : Int), (a1 : Int), (a2 : Int), (a3 : Int)], [(b0 : Int), (b1 : Int), (b2 : Int), (b3 : Int)], (c1 : Int), 1)) ?_).trans ?_
  · simp only [List.getD_cons_zero, List.getD_cons_succ]
    iterate 3 refine ite_step (by first | decide | rfl | simp) ?_
    iterate 3 refine bind_to rfl ?_
    iterate 2 refine ite_step (by first | decide | rfl | simp) ?_
    iterate 3 refine bind_to rfl ?_
    refine ite_step ⟨by omega, by omega, by omega, by omega, by omega⟩ ?_
    iterate 3 refine ite_step (by first | decide | rfl | simp) ?_
    simp only [e0, f0]; kernel_rfl
  refine (loopO_inl (s' := ([(s0 : Int), (s1 : Int), (a2 : Int), (a3 : Int)], [(b0 : Int), (b1 : Int), (b2 : Int), (b3 : Int)], (c2 : Int), 2)) ?_).trans ?_
  · simp only [List.getD_cons_zero, List.getD_cons_succ]
    iterate 3 refine ite_step (by first | decide | rfl | simp) ?_
    iterate 3 refine bind_to rfl ?_
    iterate 2 refine ite_step (by first | decide | rfl | simp) ?_
    iterate 3 refine bind_to rfl ?_
    refine ite_step ⟨by omega, by omega, by omega, by omega, by omega⟩ ?_
    iterate 3 refine ite_step (by first | decide | rfl | simp) ?_
    simp only [e1, f1]; kernel_rfl
  refine (loopO_inl (s' := ([(s0 : Int), (s1 : Int), (s2 : Int), (a3 : Int)], [(b0 : Int), (b1 : Int), (b2 : Int), (b3 : Int)], (c3 : Int), 3)) ?_).trans ?_
  · simp only [List.getD_cons_zero, List.getD_cons_succ]
    iterate 3 refine ite_step (by first | decide | rfl | simp) ?_
    iterate 3 refine bind_to rfl ?_
    iterate 2 refine ite_step (by first | decide | rfl | simp) ?_
    iterate 3 refine bind_to rfl ?_
    refine ite_step ⟨by omega, by omega, by omega, by omega, by omega⟩ ?_
    iterate 3 refine ite_step (by first | decide | rfl | simp) ?_
    simp only [e2, f2]; kernel_rfl
  refine (loopO_inl (s' := ([(s0 : Int), (s1 : Int), (s2 : Int), (s3 : Int)], [(b0 : Int), (b1 : Int), (b2 : Int), (b3 : Int)], (c4 : Int), 4)) ?_).trans ?_
  · simp only [List.getD_cons_zero, List.getD_cons_succ]
    iterate 3 refine ite_step (by first | decide | rfl | simp) ?_
    iterate 3 refine bind_to rfl ?_
    iterate 2 refine ite_step (by first | decide | rfl | simp) ?_
    iterate 3 refine bind_to rfl ?_
    refine ite_step ⟨by omega, by omega, by omega, by omega, by omega⟩ ?_
    iterate 3 refine ite_step (by first | decide | rfl | simp) ?_
    simp only [e3, f3]; kernel_rfl
  exact loopO_inr rfl
def dif (a b : Nat) : Nat := if a < b then a + 18446744073709551616 ^ 4 - b else a - b
theorem dif_lt {a b : Nat} (ha : a < 18446744073709551616 ^ 4) (hb : b < 18446744073709551616 ^ 4) : dif a b < 18446744073709551616 ^ 4 := by unfold dif; split <;> omega
theorem top_mod (a : Nat) : ∀ i, i < 4 → (a + 18446744073709551616 ^ 4) / 18446744073709551616 ^ i % 18446744073709551616 = a / 18446744073709551616 ^ i % 18446744073709551616 := by
  intro i hi
  have h : 18446744073709551616 ^ 4 = 18446744073709551616 ^ i * (18446744073709551616 * 18446744073709551616 ^ (3 - i)) := by
    rw [← Nat.pow_succ', ← Nat.pow_add]; congr 1; omega
  rw [h, Nat.add_mul_div_left _ _ (Nat.pow_pos (by decide)), Nat.add_mul_mod_self_left]
theorem dif_add {a b : Nat} (hb : b < 18446744073709551616 ^ 4) : dif a b + b = if a < b then a + 18446744073709551616 ^ 4 else a := by
  unfold dif; split <;> omega
theorem dif_word {a b : Nat} (hb : b < 18446744073709551616 ^ 4) (i : Nat) (hi : i < 4) : a / 18446744073709551616 ^ i % 18446744073709551616 = (dif a b + b + 0) / 18446744073709551616 ^ i % 18446744073709551616 := by
  rw [Nat.add_zero, dif_add hb]
  split
  · rw [top_mod a i hi]
  · rfl
theorem sbb_word {a d b c : Nat} (hd : d < 18446744073709551616) (h : a = (d + b + c) % 18446744073709551616) (hb : b < 18446744073709551616) (hc : c ≤ 1) :
    sbb (a : Int) (b : Int) (c : Int) = (d : Int) ∧ sbbC (a : Int) (b : Int) (c : Int) = (((d + b + c) / 18446744073709551616 : Nat) : Int) := by
  unfold sbb sbbC
  refine ⟨by omega, ?_⟩
  split <;> omega
theorem word_lt (a i : Nat) : a / 18446744073709551616 ^ i % 18446744073709551616 < 18446744073709551616 := Nat.mod_lt _ (by decide)
theorem minus_eq (a b : Nat) (ha : a < 18446744073709551616 ^ 4) (hb : b < 18446744073709551616 ^ 4) :
    F_field_minus (el a, el b) = some (el (dif a b), ((if a < b then 1 else 0 : Nat) : Int)) := by
  have h4 : cy (dif a b) b 0 4 = if a < b then 1 else 0 := by
    have h := cy_eq (dif a b) b 0 4
    rw [Nat.div_eq_of_lt (dif_lt ha hb), Nat.div_eq_of_lt hb, Nat.add_zero, Nat.zero_add, dif_add hb] at h
    rw [← h]
    split
    · rw [Nat.add_div_right _ (Nat.pow_pos (by decide)), Nat.div_eq_of_lt ha]
    · rw [Nat.div_eq_of_lt ha]
  rw [elP a, elP b, elP (dif a b), ← h4]
  have hw : ∀ i, i < 4 → sbb ((a / 18446744073709551616 ^ i % 18446744073709551616 : Nat) : Int) ((b / 18446744073709551616 ^ i % 18446744073709551616 : Nat) : Int) (cy (dif a b) b 0 i : Nat) = ((dif a b / 18446744073709551616 ^ i % 18446744073709551616 : Nat) : Int) ∧
      sbbC ((a / 18446744073709551616 ^ i % 18446744073709551616 : Nat) : Int) ((b / 18446744073709551616 ^ i % 18446744073709551616 : Nat) : Int) (cy (dif a b) b 0 i : Nat) = ((cy (dif a b) b 0 (i + 1) : Nat) : Int) := fun i hi =>
    sbb_word (word_lt _ _) (by rw [dif_word hb i hi, cy_mod]) (word_lt _ _) (cy_le _ _ 0 (by decide) i)
  exact minus_words _ _ _ _ _ _ _ _ _ _ _ _ _ _ _ _ (word_lt _ _) (word_lt _ _) (word_lt _ _) (word_lt _ _) (hw 0 (by decide)).1 (hw 0 (by decide)).2 (cy_le _ b 0 (by decide) 1) (hw 1 (by decide)).1 (hw 1 (by decide)).2 (cy_le _ b 0 (by decide) 2)
    (hw 2 (by decide)).1 (hw 2 (by decide)).2 (cy_le _ b 0 (by decide) 3) (hw 3 (by decide)).1 (hw 3 (by decide)).2
def prm : Nat := 57896044618658097711785492504343953926634992332820282019728792003956564819949
theorem pow4 : 18446744073709551616 ^ 4 = 115792089237316195423570985008687907853269984665640564039457584007913129639936 := by decide
theorem prime_eq : F_field_prime PUnit.unit = some (el prm) := by
  have : el prm = [18446744073709551597, 18446744073709551615, 18446744073709551615, 9223372036854775807] := by decide +kernel
  rw [this]; rfl
theorem el_small {n : Nat} (h : n < 18446744073709551616) : el n = [(n : Int), 0, 0, 0] := by
  unfold el
  rw [Nat.mod_eq_of_lt h, Nat.div_eq_of_lt h]; rfl
theorem wordAndNot_top {x : Nat} (hx : x < 18446744073709551616) : wordAndNot .u64 (x : Int) 9223372036854775808 = ((x % 9223372036854775808 : Nat) : Int) := by
  unfold wordAndNot
  have h1 : (BitVec.ofInt IntKind.u64.bits (x : Int) &&& ~~~ BitVec.ofInt IntKind.u64.bits 9223372036854775808).toNat = x % 9223372036854775808 := by
    show (BitVec.ofInt 64 (x : Int) &&& ~~~ BitVec.ofInt 64 9223372036854775808).toNat = _
    rw [BitVec.toNat_and, show (~~~ BitVec.ofInt 64 9223372036854775808).toNat = 2 ^ 63 - 1 from by decide, BitVec.toNat_ofInt]
    rw [show (((x : Int) % ((2 ^ 64 : Nat) : Int)).toNat) = x by omega, Nat.and_two_pow_sub_one_eq_mod]
  rw [h1, wrap_uns rfl, show (2 : Nat) ^ IntKind.u64.bits = 18446744073709551616 from rfl, Nat.mod_eq_of_lt (by omega)]
theorem el_top {a : Nat} (ha : a < 18446744073709551616 ^ 4) : [List.getD (el a) 0 0, List.getD (el a) 1 0, List.getD (el a) 2 0, wordAndNot .u64 (List.getD (el a) 3 0) 9223372036854775808] = el (a % 57896044618658097711785492504343953926634992332820282019728792003956564819968) := by
  have h3 : List.getD (el a) 3 0 = ((a / 18446744073709551616 / 18446744073709551616 / 18446744073709551616 % 18446744073709551616 : Nat) : Int) := rfl
  rw [h3, wordAndNot_top (Nat.mod_lt _ (by decide))]
  have hm : ∀ (k : Nat), (a % (18446744073709551616 * k)) % 18446744073709551616 = a % 18446744073709551616 := fun k => Nat.mod_mul_right_mod _ _ _
  have hd : ∀ (x k : Nat), (x % (18446744073709551616 * k)) / 18446744073709551616 = x / 18446744073709551616 % k := fun x k => Nat.mod_mul_right_div_self _ _ _
  have e : (57896044618658097711785492504343953926634992332820282019728792003956564819968 : Nat) = 18446744073709551616 * (18446744073709551616 * (18446744073709551616 * 9223372036854775808)) := by decide
  unfold el
  rw [e, hd, hd, hd, hm]
  have hm2 : ∀ (x k : Nat), (x % (18446744073709551616 * k)) % 18446744073709551616 = x % 18446744073709551616 := fun x k => Nat.mod_mul_right_mod _ _ _
  rw [hm2, hm2]
  have e4 : (a / 18446744073709551616 / 18446744073709551616 / 18446744073709551616 % 18446744073709551616 % 9223372036854775808 : Nat) = a / 18446744073709551616 / 18446744073709551616 / 18446744073709551616 % 9223372036854775808 % 18446744073709551616 := by omega
  rw [e4]; rfl
theorem el_top1 {a : Nat} (ha : a < 18446744073709551616 ^ 4) : [wu64 (19 * wordShr .u64 (List.getD (el a) 3 0) 63), 0, 0, 0] = el (19 * (a / 57896044618658097711785492504343953926634992332820282019728792003956564819968)) := by
  have h3 : List.getD (el a) 3 0 = ((a / 18446744073709551616 / 18446744073709551616 / 18446744073709551616 % 18446744073709551616 : Nat) : Int) := rfl
  rw [pow4] at ha
  have e : (57896044618658097711785492504343953926634992332820282019728792003956564819968 : Nat) = 18446744073709551616 * (18446744073709551616 * (18446744073709551616 * 9223372036854775808)) := by decide
  have hq : a / 57896044618658097711785492504343953926634992332820282019728792003956564819968 = a / 18446744073709551616 / 18446744073709551616 / 18446744073709551616 / 9223372036854775808 := by
    rw [e, ← Nat.div_div_eq_div_mul, ← Nat.div_div_eq_div_mul, ← Nat.div_div_eq_div_mul]
  have h1 : a / 57896044618658097711785492504343953926634992332820282019728792003956564819968 ≤ 1 := by omega
  have hlt : a / 18446744073709551616 / 18446744073709551616 / 18446744073709551616 < 18446744073709551616 := by omega
  rw [h3, Nat.mod_eq_of_lt hlt, show (63 : Int) = ((63 : Nat) : Int) from rfl, wordShr_u64 _ 63 (by omega), show (2 : Nat) ^ 63 = 9223372036854775808 from rfl, ← hq, show (19 : Int) * ((a / 57896044618658097711785492504343953926634992332820282019728792003956564819968 : Nat) : Int) = ((19 * (a / 57896044618658097711785492504343953926634992332820282019728792003956564819968) : Nat) : Int) by omega, wu64_nat, Nat.mod_eq_of_lt (by omega), el_small (by omega)]
theorem mod_prm {a r : Nat} (h : r = a % 57896044618658097711785492504343953926634992332820282019728792003956564819968 + 19 * (a / 57896044618658097711785492504343953926634992332820282019728792003956564819968)) (hr : r < 2 * prm) :
    (if r < prm then r else r - prm) = a % prm := by
  have h1 : a = prm * (a / 57896044618658097711785492504343953926634992332820282019728792003956564819968) + r := by
    unfold prm; omega
  have h2 : a % prm = r % prm := by
    conv => lhs; rw [h1]
    exact Nat.mul_add_mod _ _ _
  rw [h2]
  split
  · rw [Nat.mod_eq_of_lt (by assumption)]
  · rw [Nat.mod_eq_sub_mod (by omega), Nat.mod_eq_of_lt (by omega)]
theorem reduce_eq (a : Nat) (ha : a < 18446744073709551616 ^ 4) : F_field_Reduce (el a) = some (el (a % prm)) := by
  unfold F_field_Reduce
  simp only [List.getD_cons_zero, List.getD_cons_succ]
  rw [el_top ha, el_top1 ha]
  have ha' := ha
  rw [pow4] at ha'
  generalize hr : a % 57896044618658097711785492504343953926634992332820282019728792003956564819968 + 19 * (a / 57896044618658097711785492504343953926634992332820282019728792003956564819968) = r
  have hr2 : r < 57896044618658097711785492504343953926634992332820282019728792003956564819968 + 20 := by omega
  rw [plus_eq _ _ (by rw [pow4]; omega) (by rw [pow4]; omega), Option.bind_some, hr]
  simp only
  rw [prime_eq, Option.bind_some, el_row, el_row, minus_eq r prm (by rw [pow4]; omega) (by rw [pow4]; decide), Option.bind_some]
  simp only
  have hm := mod_prm hr.symm (by unfold prm; omega)
  by_cases hlt : r < prm
  · rw [if_pos hlt] at hm
    rw [if_pos hlt, if_neg (by decide), hm]
  · rw [if_neg hlt] at hm
    have hd : dif r prm = r - prm := by unfold dif; rw [if_neg hlt]
    rw [if_neg hlt, if_pos (by decide), el_row, hd, hm]
theorem mod_prm_lt (a : Nat) : a % prm < 18446744073709551616 ^ 4 := Nat.lt_trans (Nat.mod_lt _ (by decide)) (by decide)
theorem f_add_eq (a b : Nat) (ha : a < 18446744073709551616 ^ 4) (hb : b < 18446744073709551616 ^ 4) : F_field_Add (el a, el b) = some (el ((a + b) % prm)) := by
  unfold F_field_Add
  simp only [List.getD_cons_zero, List.getD_cons_succ]
  have h1 : a % prm + b % prm < 2 * prm := by
    have := Nat.mod_lt a (show 0 < prm by decide)
    have := Nat.mod_lt b (show 0 < prm by decide)
    omega
  have h2 : 2 * prm < 18446744073709551616 ^ 4 := by decide
  rw [el_row, el_row, reduce_eq a ha, Option.bind_some, reduce_eq b hb, Option.bind_some, el_row, el_row, plus_eq _ _ (mod_prm_lt a) (mod_prm_lt b), Option.bind_some]
  simp only
  rw [el_row, reduce_eq _ (by omega), Option.bind_some, el_row, ← Nat.add_mod]
theorem f_sub_eq (a b : Nat) (ha : a < 18446744073709551616 ^ 4) (hb : b < 18446744073709551616 ^ 4) : F_field_Sub (el a, el b) = some (el ((a + (prm - b % prm)) % prm)) := by
  unfold F_field_Sub
  simp only [List.getD_cons_zero, List.getD_cons_succ]
  have h1 := Nat.mod_lt a (show 0 < prm by decide)
  have h2 := Nat.mod_lt b (show 0 < prm by decide)
  have h3 : (a + (prm - b % prm)) % prm = if a % prm < b % prm then a % prm + prm - b % prm else a % prm - b % prm := by
    rw [Nat.add_mod]
    by_cases h0 : b % prm = 0
    · rw [h0, Nat.sub_zero, Nat.mod_self, Nat.add_zero, Nat.mod_mod, if_neg (by omega), Nat.sub_zero]
    · rw [Nat.mod_eq_of_lt (show prm - b % prm < prm by omega)]
      split
      · rw [Nat.mod_eq_of_lt (by omega)]; omega
      · rw [Nat.mod_eq_sub_mod (by omega), Nat.mod_eq_of_lt (by omega)]; omega
  rw [el_row, el_row, reduce_eq a ha, Option.bind_some, reduce_eq b hb, Option.bind_some, el_row, el_row, minus_eq _ _ (mod_prm_lt a) (mod_prm_lt b), Option.bind_some, h3]
  simp only
  by_cases hlt : a % prm < b % prm
  · have hd : el (dif (a % prm) (b % prm) + prm) = el (a % prm + prm - b % prm) := by
      have hp : (18446744073709551616 : Nat) ^ 4 = 115792089237316195423570985008687907853269984665640564039457584007913129639936 := pow4
      have : dif (a % prm) (b % prm) + prm = a % prm + prm - b % prm + 18446744073709551616 ^ 4 := by
        unfold dif; rw [if_pos hlt, hp]; unfold prm at *; omega
      rw [this, elP, elP, top_mod _ 0 (by decide), top_mod _ 1 (by decide), top_mod _ 2 (by decide), top_mod _ 3 (by decide)]
    refine bind_to (v := .inl (el (a % prm + prm - b % prm))) ?_ ?_
    · rw [if_pos hlt, if_pos (by decide), prime_eq, Option.bind_some, el_row, el_row, plus_eq _ _ (dif_lt (mod_prm_lt a) (mod_prm_lt b)) (by decide), Option.bind_some]
      simp only
      rw [el_row, hd]
    · rw [if_pos hlt]; rfl
  · refine bind_to (v := .inl (el (a % prm - b % prm))) ?_ ?_
    · rw [if_neg hlt, if_neg (by decide), el_row]; unfold dif; rw [if_neg hlt]
    · rw [if_neg hlt]; rfl
end Go.Proofs.Ytffofdfikmpanaa.A
namespace Go.Proofs.Ytffofdfikmpanaa.A
set_option linter.unusedVariables false
set_option linter.unusedSimpArgs false
set_option maxRecDepth 10000
theorem half_mul {a b : Nat} (ha : a < 4294967296) (hb : b < 4294967296) : a * b ≤ 18446744065119617025 := by
  have := Nat.mul_le_mul (show a ≤ 4294967295 by omega) (show b ≤ 4294967295 by omega)
  omega
theorem mul64_eq (x y : Nat) (hx : x < 18446744073709551616) (hy : y < 18446744073709551616) :
    F_math_bits_Mul64 ((x : Int), (y : Int)) = some (((x * y / 18446744073709551616 : Nat) : Int), ((x * y % 18446744073709551616 : Nat) : Int)) := by
  unfold F_math_bits_Mul64
  simp only
  have and32 : ∀ {v : Nat}, v < 18446744073709551616 → wordAnd .u64 (v : Int) 4294967295 = ((v % 4294967296 : Nat) : Int) := fun {v} hv => by
    rw [show (4294967295 : Int) = ((4294967295 : Nat) : Int) from rfl, wordAnd_u64 hv (by decide), show (4294967295 : Nat) = 2 ^ 32 - 1 from rfl, Nat.and_two_pow_sub_one_eq_mod]
  have shr32 : ∀ (v : Nat), wordShr .u64 (v : Int) 32 = ((v / 4294967296 : Nat) : Int) := fun v => by
    rw [show (32 : Int) = ((32 : Nat) : Int) from rfl, wordShr_u64 _ 32 (by omega)]
  have mulc : ∀ (a b : Nat), (a : Int) * (b : Int) = ((a * b : Nat) : Int) := fun a b => (Int.natCast_mul a b).symm
  have addc : ∀ (a b : Nat), (a : Int) + (b : Int) = ((a + b : Nat) : Int) := fun a b => (Int.natCast_add a b).symm
  rw [and32 hx, and32 hy, shr32 x, shr32 y, mulc, mulc, mulc, mulc, mulc]
  have hx1 : x / 4294967296 < 4294967296 := by omega
  have hy1 : y / 4294967296 < 4294967296 := by omega
  have hx0 : x % 4294967296 < 4294967296 := by omega
  have hy0 : y % 4294967296 < 4294967296 := by omega
  have hxy : x * y = x / 4294967296 * (y / 4294967296) * 18446744073709551616 + (x / 4294967296 * (y % 4294967296) + x % 4294967296 * (y / 4294967296)) * 4294967296 + x % 4294967296 * (y % 4294967296) := by
    have e1 : x = x / 4294967296 * 4294967296 + x % 4294967296 := by omega
    have e2 : y = y / 4294967296 * 4294967296 + y % 4294967296 := by omega
    conv => lhs; rw [e1, e2]
    generalize x / 4294967296 = a
    generalize x % 4294967296 = b
    generalize y / 4294967296 = c
    generalize y % 4294967296 = d
    have q1 : a * 4294967296 * (c * 4294967296) = a * c * 18446744073709551616 := by
      rw [show a * 4294967296 * (c * 4294967296) = a * c * (4294967296 * 4294967296) by ac_rfl]
    rw [Nat.add_mul, Nat.mul_add, Nat.mul_add, q1, show a * 4294967296 * d = a * d * 4294967296 by ac_rfl, show b * (c * 4294967296) = b * c * 4294967296 by ac_rfl, Nat.add_mul]
    omega
  have h00 := half_mul hx0 hy0
  have h01 := half_mul hx0 hy1
  have h10 := half_mul hx1 hy0
  have h11 := half_mul hx1 hy1
  rw [hxy]
  generalize x % 4294967296 * (y % 4294967296) = a at *
  generalize x % 4294967296 * (y / 4294967296) = b at *
  generalize x / 4294967296 * (y % 4294967296) = c at *
  generalize x / 4294967296 * (y / 4294967296) = d at *
  simp only [wu64_nat, shr32, addc]
  rw [and32 (Nat.mod_lt _ (by decide))]
  simp only [wu64_nat, shr32, addc]
  simp only [Option.some.injEq, Prod.mk.injEq, Int.ofNat_inj]
  clear hxy
  refine ⟨?_, ?_⟩
  · rw [Nat.mod_eq_of_lt (show d < 18446744073709551616 by omega), Nat.mod_eq_of_lt (show c < 18446744073709551616 by omega), Nat.mod_eq_of_lt (show a < 18446744073709551616 by omega), Nat.mod_eq_of_lt (show b < 18446744073709551616 by omega)]
    generalize hu : a / 4294967296 = u
    have hu1 : u ≤ 4294967295 := by omega
    rw [Nat.mod_eq_of_lt (show c + u < 18446744073709551616 by omega)]
    generalize hv : (c + u) / 4294967296 = v
    generalize hw : (c + u) % 4294967296 = w
    have hv1 : v ≤ 4294967295 := by omega
    rw [Nat.mod_eq_of_lt (show w + b < 18446744073709551616 by omega), Nat.mod_eq_of_lt (show d + v < 18446744073709551616 by omega)]
    generalize hz : (w + b) / 4294967296 = z
    have hz1 : z ≤ 4294967295 := by omega
    rw [Nat.mod_eq_of_lt (show d + v + z < 18446744073709551616 by omega)]
    omega
  · trivial
end Go.Proofs.Ytffofdfikmpanaa.A
namespace Go.Proofs.Ytffofdfikmpanaa.A
set_option linter.unusedVariables false
set_option linter.unusedSimpArgs false
set_option maxRecDepth 10000
section
variable (W : Nat)
def rowc (x : Nat) (ys p : List Nat) (i : Nat) : Nat → Nat
  | 0 => 0
  | k + 1 => (x * ys.getD k 0 + p.getD (i + k) 0 + rowc x ys p i k) / W
def rowp (x : Nat) (ys p : List Nat) (i : Nat) : Nat → List Nat
  | 0 => p
  | k + 1 => (rowp x ys p i k).set (i + k) ((x * ys.getD k 0 + p.getD (i + k) 0 + rowc W x ys p i k) % W)
def prodp (xs ys : List Nat) (n m : Nat) : Nat → List Nat
  | 0 => List.replicate m 0
  | i + 1 => (rowp W (xs.getD i 0) ys (prodp xs ys n m i) i n).set (i + n) (rowc W (xs.getD i 0) ys (prodp xs ys n m i) i n)
end
variable {W : Nat}
@[simp] theorem rowp_length (x : Nat) (ys p : List Nat) (i : Nat) : ∀ k, (rowp W x ys p i k).length = p.length
  | 0 => rfl
  | k + 1 => by simp [rowp, rowp_length x ys p i k]
@[simp] theorem prodp_length (xs ys : List Nat) (n m : Nat) : ∀ i, (prodp W xs ys n m i).length = m
  | 0 => by simp [prodp]
  | i + 1 => by simp [prodp, prodp_length xs ys n m i]
theorem rowp_get (x : Nat) (ys p : List Nat) (i : Nat) : ∀ {k j : Nat}, (i + k ≤ j ∨ j < i) → (rowp W x ys p i k).getD j 0 = p.getD j 0
  | 0, j, h => rfl
  | k + 1, j, h => by
    unfold rowp
    rw [List.getD_eq_getElem?_getD, List.getElem?_set_ne (by omega), ← List.getD_eq_getElem?_getD, rowp_get x ys p i (by omega)]
theorem prodp_zero (xs ys : List Nat) (n m : Nat) : ∀ {i j : Nat}, i + n ≤ j → (prodp W xs ys n m i).getD j 0 = 0
  | 0, j, h => by
    unfold prodp
    rw [List.getD_eq_getElem?_getD]
    by_cases hj : j < m
    · simp [hj]
    · simp [hj]
  | i + 1, j, h => by
    unfold prodp
    rw [List.getD_eq_getElem?_getD, List.getElem?_set_ne (by omega), ← List.getD_eq_getElem?_getD, rowp_get _ _ _ _ (by omega), prodp_zero xs ys n m (by omega)]
theorem val_set (W : Nat) : ∀ {l : List Nat} {j : Nat} (x : Nat), j < l.length → val W (l.set j x) + W ^ j * l.getD j 0 = val W l + W ^ j * x
  | [], j, x, h => by simp at h
  | d :: l, 0, x, h => by simp [val]; omega
  | d :: l, j + 1, x, h => by
    have := val_set W (l := l) (j := j) x (by simpa using h)
    simp only [List.set_cons_succ, val, List.getD_cons_succ, Nat.pow_succ']
    have e1 : W * val W (l.set j x) + W * W ^ j * l.getD j 0 = W * (val W (l.set j x) + W ^ j * l.getD j 0) := by rw [Nat.mul_add, Nat.mul_assoc]
    have e2 : W * val W l + W * W ^ j * x = W * (val W l + W ^ j * x) := by rw [Nat.mul_add, Nat.mul_assoc]
    rw [← this] at e2
    omega
theorem take_val (W : Nat) (l : List Nat) {k : Nat} (h : k < l.length) : val W (l.take (k + 1)) = val W (l.take k) + W ^ k * l.getD k 0 := by
  rw [List.take_add_one, val_append, List.length_take, Nat.min_eq_left (by omega), List.getElem?_eq_getElem h]
  simp [val, List.getD, List.getElem?_eq_getElem h]
theorem rowp_val (hW : 0 < W) (x : Nat) (ys p : List Nat) (i : Nat) : ∀ {k : Nat}, k ≤ ys.length → i + k ≤ p.length → val W (rowp W x ys p i k) + W ^ (i + k) * rowc W x ys p i k = val W p + W ^ i * (x * val W (ys.take k))
  | 0, _, _ => by simp [rowp, rowc, val]
  | k + 1, h1, h2 => by
    have ih := rowp_val hW x ys p i (k := k) (by omega) (by omega)
    have hs := val_set W (l := rowp W x ys p i k) (j := i + k) ((x * ys.getD k 0 + p.getD (i + k) 0 + rowc W x ys p i k) % W) (by simp; omega)
    rw [rowp_get _ _ _ _ (.inl (Nat.le_refl _))] at hs
    rw [show rowp W x ys p i (k + 1) = (rowp W x ys p i k).set (i + k) ((x * ys.getD k 0 + p.getD (i + k) 0 + rowc W x ys p i k) % W) from rfl, show rowc W x ys p i (k + 1) = (x * ys.getD k 0 + p.getD (i + k) 0 + rowc W x ys p i k) / W from rfl, take_val W ys (by omega)]
    generalize ht : x * ys.getD k 0 + p.getD (i + k) 0 + rowc W x ys p i k = t at hs ⊢
    have hd : W ^ (i + k) * t = W ^ (i + k) * (t % W) + W ^ (i + (k + 1)) * (t / W) := by
      conv => lhs; rw [← Nat.div_add_mod t W]
      rw [Nat.mul_add, ← Nat.mul_assoc, ← Nat.pow_succ, Nat.add_comm]; rfl
    have hd2 : W ^ (i + k) * t = W ^ (i + k) * (x * ys.getD k 0) + W ^ (i + k) * p.getD (i + k) 0 + W ^ (i + k) * rowc W x ys p i k := by
      rw [← ht, Nat.mul_add, Nat.mul_add]
    have hr : W ^ i * (x * (val W (ys.take k) + W ^ k * ys.getD k 0)) = W ^ i * (x * val W (ys.take k)) + W ^ (i + k) * (x * ys.getD k 0) := by
      rw [Nat.mul_add, Nat.mul_add, Nat.pow_add]; congr 1; ac_rfl
    rw [hr]
    omega
theorem prodp_val (hW : 0 < W) (xs ys : List Nat) (n m : Nat) (hy : ys.length = n) : ∀ {i : Nat}, i ≤ xs.length → i + n ≤ m → val W (prodp W xs ys n m i) = val W (xs.take i) * val W ys
  | 0, _, _ => by
    unfold prodp
    rw [val_zeros W (fun d hd => (List.mem_replicate.1 hd).2)]; simp [val]
  | i + 1, h1, h2 => by
    have ih := prodp_val hW xs ys n m hy (i := i) (by omega) (by omega)
    have hr := rowp_val hW (xs.getD i 0) ys (prodp W xs ys n m i) i (k := n) (by omega) (by simp; omega)
    have hs := val_set W (l := rowp W (xs.getD i 0) ys (prodp W xs ys n m i) i n) (j := i + n) (rowc W (xs.getD i 0) ys (prodp W xs ys n m i) i n) (by simp; omega)
    rw [rowp_get _ _ _ _ (.inl (Nat.le_refl _)), prodp_zero _ _ _ _ (Nat.le_refl _), Nat.mul_zero, Nat.add_zero, hr, ih] at hs
    unfold prodp
    rw [hs, take_val W xs (by omega), Nat.add_mul, List.take_of_length_le (l := ys) (i := n) (by omega)]
    congr 1; ac_rfl
theorem row_lt {x y p c : Nat} (hx : x < W) (hy : y < W) (hp : p < W) (hc : c < W) : (x * y + p + c) / W < W := by
  rw [Nat.div_lt_iff_lt_mul (by omega)]
  have h1 : x * y ≤ (W - 1) * (W - 1) := Nat.mul_le_mul (by omega) (by omega)
  obtain ⟨w, rfl⟩ : ∃ w, W = w + 1 := ⟨W - 1, by omega⟩
  simp only [Nat.add_sub_cancel] at h1
  rw [Nat.add_mul, Nat.mul_add, Nat.mul_one, Nat.one_mul]
  omega
theorem rowc_lt {x : Nat} {ys p : List Nat} {i : Nat} (hx : x < W) (hy : ∀ d ∈ ys, d < W) (hp : ∀ d ∈ p, d < W) : ∀ k, rowc W x ys p i k < W
  | 0 => by unfold rowc; omega
  | k + 1 => row_lt hx (getD_lt' (by omega) hy k) (getD_lt' (by omega) hp _) (rowc_lt hx hy hp k)
where
  getD_lt' {B : Nat} (hB : 0 < B) {l : List Nat} (h : ∀ d ∈ l, d < B) (j : Nat) : l.getD j 0 < B := by
    rw [List.getD_eq_getElem?_getD]
    cases hx : l[j]? with
    | none => exact hB
    | some x => exact h x (List.mem_of_getElem? hx)
theorem rowp_lt {x : Nat} {ys p : List Nat} {i : Nat} (hW : 0 < W) (hp : ∀ d ∈ p, d < W) : ∀ k, ∀ d ∈ rowp W x ys p i k, d < W
  | 0 => hp
  | k + 1 => fun d hd => by
    unfold rowp at hd
    rcases List.mem_or_eq_of_mem_set hd with h | h
    · exact rowp_lt hW hp k d h
    · rw [h]; exact Nat.mod_lt _ hW
theorem prodp_lt {xs ys : List Nat} {n m : Nat} (hW : 0 < W) (hx : ∀ d ∈ xs, d < W) (hy : ∀ d ∈ ys, d < W) : ∀ i, ∀ d ∈ prodp W xs ys n m i, d < W
  | 0 => fun d hd => by unfold prodp at hd; rw [(List.mem_replicate.1 hd).2]; exact hW
  | i + 1 => fun d hd => by
    unfold prodp at hd
    have ih := prodp_lt (n := n) (m := m) hW hx hy i
    rcases List.mem_or_eq_of_mem_set hd with h | h
    · exact rowp_lt hW ih n d h
    · rw [h]; exact rowc_lt (rowc_lt.getD_lt' hW hx i) hy ih n
end Go.Proofs.Ytffofdfikmpanaa.A
namespace Go.Proofs.Ytffofdfikmpanaa.A
set_option linter.unusedVariables false
set_option linter.unusedSimpArgs false
set_option maxRecDepth 10000
theorem natR_getD (l : List Nat) (i : Nat) : (natR l).getD i 0 = ((l.getD i 0 : Nat) : Int) := by
  simp only [natR, List.getD_eq_getElem?_getD, List.getElem?_map]
  cases l[i]? <;> rfl
@[simp] theorem natR_length (l : List Nat) : (natR l).length = l.length := by simp [natR]
theorem natR_set (l : List Nat) (i x : Nat) : (natR l).set i (x : Int) = natR (l.set i x) := by simp [natR, List.map_set]
theorem four {α : Type} {l : List α} (h : l.length = 4) : ∃ a b c d, l = [a, b, c, d] := by
  match l, h with
  | [a, b, c, d], _ => exact ⟨a, b, c, d, rfl⟩
theorem eight' {α : Type} {l : List α} (h : l.length = 8) : ∃ a b c d e f g i, l = [a, b, c, d, e, f, g, i] := by
  match l, h with
  | [a, b, c, d, e, f, g, i], _ => exact ⟨a, b, c, d, e, f, g, i, rfl⟩
theorem row4 {l : List Nat} (h : l.length = 4) : [(natR l).getD 0 0, (natR l).getD 1 0, (natR l).getD 2 0, (natR l).getD 3 0] = natR l := by
  obtain ⟨a, b, c, d, rfl⟩ := four h; rfl
theorem getT8 (v : List Int) : ∀ {i : Nat}, i < 8 → [T.p (V.int .u64 (List.getD v 0 0)), T.p (V.int .u64 (List.getD v 1 0)), T.p (V.int .u64 (List.getD v 2 0)), T.p (V.int .u64 (List.getD v 3 0)), T.p (V.int .u64 (List.getD v 4 0)), T.p (V.int .u64 (List.getD v 5 0)), T.p (V.int .u64 (List.getD v 6 0)), T.p (V.int .u64 (List.getD v 7 0))][i]? = some (T.p (V.int .u64 (v.getD i 0)))
  | 0, _ => rfl | 1, _ => rfl | 2, _ => rfl | 3, _ => rfl | 4, _ => rfl | 5, _ => rfl | 6, _ => rfl | 7, _ => rfl
  | i + 8, h => by omega
theorem getT4 (v : List Int) : ∀ {i : Nat}, i < 4 → [T.p (V.int .u64 (List.getD v 0 0)), T.p (V.int .u64 (List.getD v 1 0)), T.p (V.int .u64 (List.getD v 2 0)), T.p (V.int .u64 (List.getD v 3 0))][i]? = some (T.p (V.int .u64 (v.getD i 0)))
  | 0, _ => rfl | 1, _ => rfl | 2, _ => rfl | 3, _ => rfl
  | i + 4, h => by omega
theorem getI4 (v : List Int) : ∀ {i : Nat}, i < 4 → [List.getD v 0 0, List.getD v 1 0, List.getD v 2 0, List.getD v 3 0][i]? = some (v.getD i 0)
  | 0, _ => rfl | 1, _ => rfl | 2, _ => rfl | 3, _ => rfl
  | i + 4, h => by omega
theorem setT8 {v : List Int} (hv : v.length = 8) (x : Int) {i : Nat} (hi : i < 8) :
    ((elemsS.T.pures (List.take 8 (List.set [T.p (V.int .u64 (List.getD v 0 0)), T.p (V.int .u64 (List.getD v 1 0)), T.p (V.int .u64 (List.getD v 2 0)), T.p (V.int .u64 (List.getD v 3 0)), T.p (V.int .u64 (List.getD v 4 0)), T.p (V.int .u64 (List.getD v 5 0)), T.p (V.int .u64 (List.getD v 6 0)), T.p (V.int .u64 (List.getD v 7 0))] i (T.p (V.int .u64 x))))).bind fun w =>
      (intsOf .u64 8 w).bind fun u => some ((u, List.drop 8 (List.set [T.p (V.int .u64 (List.getD v 0 0)), T.p (V.int .u64 (List.getD v 1 0)), T.p (V.int .u64 (List.getD v 2 0)), T.p (V.int .u64 (List.getD v 3 0)), T.p (V.int .u64 (List.getD v 4 0)), T.p (V.int .u64 (List.getD v 5 0)), T.p (V.int .u64 (List.getD v 6 0)), T.p (V.int .u64 (List.getD v 7 0))] i (T.p (V.int .u64 x))))) : Option (List Int × List T)) = some (v.set i x, []) := by
  obtain ⟨a, b, c, d, e, f, g, h, rfl⟩ := eight' hv
  match i, hi with
  | 0, _ => rfl | 1, _ => rfl | 2, _ => rfl | 3, _ => rfl | 4, _ => rfl | 5, _ => rfl | 6, _ => rfl | 7, _ => rfl
  | i + 8, h => omega
theorem setT4 {v : List Int} (hv : v.length = 4) (x : Int) {i : Nat} (hi : i < 4) :
    ((elemsS.T.pures (List.take 4 (List.set [T.p (V.int .u64 (List.getD v 0 0)), T.p (V.int .u64 (List.getD v 1 0)), T.p (V.int .u64 (List.getD v 2 0)), T.p (V.int .u64 (List.getD v 3 0))] i (T.p (V.int .u64 x))))).bind fun w =>
      (intsOf .u64 4 w).bind fun u => some ((u, List.drop 4 (List.set [T.p (V.int .u64 (List.getD v 0 0)), T.p (V.int .u64 (List.getD v 1 0)), T.p (V.int .u64 (List.getD v 2 0)), T.p (V.int .u64 (List.getD v 3 0))] i (T.p (V.int .u64 x))))) : Option (List Int × List T)) = some (v.set i x, []) := by
  obtain ⟨a, b, c, d, rfl⟩ := four hv
  match i, hi with
  | 0, _ => rfl | 1, _ => rfl | 2, _ => rfl | 3, _ => rfl
  | i + 4, h => omega
theorem w64_two {i k : Nat} (h : i + k < 4611686018427387904) : w64 ((i : Int) + (k : Int)) = ((i + k : Nat) : Int) := by rw [show (i : Int) + (k : Int) = ((i + k : Nat) : Int) by omega]; exact w64_nat (by omega)
theorem w64_four {i : Nat} (h : i < 4611686018427387904) : w64 ((i : Int) + 4) = ((i + 4 : Nat) : Int) := w64_nat (n := i + 4) (by omega)
abbrev M64 : Nat := 18446744073709551616
theorem row_step {t h l p c : Nat} (ht : t = h * 18446744073709551616 + l + p + c) (ht2 : t < 340282366920938463463374607431768211456) (hl : l < 18446744073709551616) (hp : p < 18446744073709551616) (hc : c < 18446744073709551616) :
    adc (adc (l : Int) (p : Int) 0) (c : Int) 0 = ((t % 18446744073709551616 : Nat) : Int) ∧
    wu64 (wu64 ((h : Int) + adcC (l : Int) (p : Int) 0) + adcC (adc (l : Int) (p : Int) 0) (c : Int) 0) = ((t / 18446744073709551616 : Nat) : Int) := by
  have e : t / 18446744073709551616 = h + (l + p) / 18446744073709551616 + ((l + p) % 18446744073709551616 + c) / 18446744073709551616 := by omega
  have e2 : t / 18446744073709551616 < 18446744073709551616 := by omega
  rw [adc_nat0, adc_nat0, adcC_nat0, adcC_nat0, e]
  generalize hg : (l + p) / 18446744073709551616 = g at *
  generalize hj : ((l + p) % 18446744073709551616 + c) / 18446744073709551616 = j at *
  refine ⟨by omega, ?_⟩
  rw [show (h : Int) + (g : Int) = ((h + g : Nat) : Int) by omega, wu64_nat, Nat.mod_eq_of_lt (by omega), show ((h + g : Nat) : Int) + (j : Int) = ((h + g + j : Nat) : Int) by omega, wu64_nat, Nat.mod_eq_of_lt (by omega)]
theorem hi_le {x y p c : Nat} (hx : x < 18446744073709551616) (hy : y < 18446744073709551616) (hp : p < 18446744073709551616) (hc : c < 18446744073709551616) : x * y + p + c < 340282366920938463463374607431768211456 := by
  have h1 : x * y ≤ 18446744073709551615 * 18446744073709551615 := Nat.mul_le_mul (by omega) (by omega)
  omega
theorem getD_lt2 {B : Nat} (hB : 0 < B) {l : List Nat} (h : ∀ d ∈ l, d < B) (j : Nat) : l.getD j 0 < B := by
  rw [List.getD_eq_getElem?_getD]
  cases hx : l[j]? with
  | none => exact hB
  | some x => exact h x (List.mem_of_getElem? hx)
set_option maxHeartbeats 2000000 in
theorem product_words {a b : List Nat} (ha : a.length = 4) (hb : b.length = 4) (hA : ∀ d ∈ a, d < M64) (hB : ∀ d ∈ b, d < M64) :
    F_field_product (natR a, natR b) = some (natR ((prodp M64 a b 4 8 4).take 4), natR ((prodp M64 a b 4 8 4).drop 4)) := by
  unfold F_field_product
  simp only [List.getD_cons_zero, List.getD_cons_succ]
  rw [row4 hb]
  have hP := prodp_lt (W := M64) (n := 4) (m := 8) (by decide) hA hB
  refine (congrArg (loopO _) ?_).trans (loopO_run (ι := Nat) (fun i => (natR b, natR (prodp M64 a b 4 8 i), ((natR a).getD 0 0, (natR a).getD 1 0, (natR a).getD 2 0, (natR a).getD 3 0), (i : Int)))
    (fun _ => (natR ((prodp M64 a b 4 8 4).take 4), natR ((prodp M64 a b 4 8 4).drop 4))) (fun i => i ≤ 4) (fun i => 4 - i) ?_ 0 (by omega))
  · rfl
  · intro i hi
    dsimp only
    by_cases hlt : i < 4
    · left
      refine ⟨i + 1, ?_, by omega, by omega, rfl⟩
      rw [if_pos (by simp; omega), if_pos (by omega), Int.toNat_natCast, getI4 _ hlt, Option.bind_some, natR_getD a i, fitI_eq (by simp), row4 hb]
      have hx : a.getD i 0 < M64 := getD_lt2 (by decide) hA i
      have hR := rowp_lt (x := a.getD i 0) (ys := b) (i := i) (W := M64) (by decide) (hP i)
      have hC := rowc_lt (i := i) hx hB (hP i)
      refine (congrArg (loopO _) ?_).trans (loopO_run (ι := Nat) (fun k => (natR (rowp M64 (a.getD i 0) b (prodp M64 a b 4 8 i) i k), (i : Int), ((a.getD i 0 : Nat) : Int), ((rowc M64 (a.getD i 0) b (prodp M64 a b 4 8 i) i k : Nat) : Int), ((natR b).getD 0 0, (natR b).getD 1 0, (natR b).getD 2 0, (natR b).getD 3 0), (k : Int)))
        (fun _ => Sum.inl (natR b, natR (prodp M64 a b 4 8 (i + 1)), ((natR a).getD 0 0, (natR a).getD 1 0, (natR a).getD 2 0, (natR a).getD 3 0), ((i + 1 : Nat) : Int))) (fun k => k ≤ 4) (fun k => 4 - k) ?_ 0 (by omega))
      · rfl
      · intro k hk
        dsimp only
        have hln : (natR (rowp M64 (a.getD i 0) b (prodp M64 a b 4 8 i) i k)).length = 8 := by simp
        by_cases hkt : k < 4
        · left
          refine ⟨k + 1, ?_, by omega, by omega, rfl⟩
          have hy : b.getD k 0 < M64 := getD_lt2 (by decide) hB k
          have hp : (prodp M64 a b 4 8 i).getD (i + k) 0 < M64 := getD_lt2 (by decide) (hP i) _
          obtain ⟨s1, s2⟩ := row_step (t := a.getD i 0 * b.getD k 0 + (prodp M64 a b 4 8 i).getD (i + k) 0 + rowc M64 (a.getD i 0) b (prodp M64 a b 4 8 i) i k) (h := a.getD i 0 * b.getD k 0 / 18446744073709551616) (l := a.getD i 0 * b.getD k 0 % 18446744073709551616) (by omega) (hi_le hx hy hp (hC k)) (by omega) hp (hC k)
          rw [if_pos (by simp; omega), if_pos (by omega), Int.toNat_natCast, getI4 _ hkt, Option.bind_some, natR_getD b k, mul64_eq _ _ hx hy, Option.bind_some]
          simp only
          rw [w64_two (by omega), Int.toNat_natCast, Nat.zero_add, Nat.mul_one, if_pos (by omega), if_pos (by omega), getT8 _ (by omega), Option.bind_some, T.val?, Option.bind_some, int?_int, Option.bind_some, natR_getD _ (i + k),
            rowp_get _ _ _ _ (.inl (Nat.le_refl _)), if_pos ⟨by omega, by omega, by decide, by decide⟩, if_pos ⟨by rw [adc_nat0]; omega, by omega, by decide, by decide⟩, if_pos (by omega), if_pos (by omega), if_pos (by omega), s1, s2]
          refine bind_to (bind_to (bind_to (setT8 hln _ (by omega)) rfl) rfl) ?_
          rw [natR_set, w64_inc' (by omega)]; rfl
        · right
          have hk4 : k = 4 := by omega
          subst hk4
          rw [if_neg (by simp), w64_four (by omega), Int.toNat_natCast, Nat.zero_add, Nat.mul_one]
          refine bind_to (v := Sum.inl (natR b, natR (prodp M64 a b 4 8 (i + 1)), ((natR a).getD 0 0, (natR a).getD 1 0, (natR a).getD 2 0, (natR a).getD 3 0), ((i + 1 : Nat) : Int))) ?_ rfl
          rw [if_pos (by omega), if_pos (by omega), if_pos (by omega)]
          refine bind_to (bind_to (bind_to (bind_to (setT8 hln _ (by omega)) rfl) rfl) rfl) ?_
          rw [natR_set, w64_inc' (by omega)]; rfl
    · right
      have hi4 : i = 4 := by omega
      subst hi4
      rw [if_neg (by simp)]
      obtain ⟨p0, p1, p2, p3, p4, p5, p6, p7, hp⟩ := eight' (prodp_length (W := M64) a b 4 8 4)
      rw [hp]; rfl
where
  w64_inc' {i : Nat} (h : i < 4611686018427387904) : w64 ((i : Int) + 1) = ((i + 1 : Nat) : Int) := w64_nat (n := i + 1) (by omega)
end Go.Proofs.Ytffofdfikmpanaa.A
namespace Go.Proofs.Ytffofdfikmpanaa.A
set_option linter.unusedVariables false
set_option linter.unusedSimpArgs false
set_option maxRecDepth 10000
theorem w64_nx {i : Nat} (h : i < 4611686018427387904) : w64 ((i : Int) + 1) = ((i + 1 : Nat) : Int) := w64_nat (n := i + 1) (by omega)
def elN (x : Nat) : List Nat := [x % 18446744073709551616, x / 18446744073709551616 % 18446744073709551616, x / 18446744073709551616 / 18446744073709551616 % 18446744073709551616, x / 18446744073709551616 / 18446744073709551616 / 18446744073709551616 % 18446744073709551616]
theorem el_natR (x : Nat) : el x = natR (elN x) := rfl
theorem elN_lt (x : Nat) : ∀ d ∈ elN x, d < M64 := by
  intro d hd
  simp only [elN, List.mem_cons, List.mem_nil_iff, or_false] at hd
  rcases hd with rfl | rfl | rfl | rfl <;> exact Nat.mod_lt _ (by decide)
theorem val_elN {x : Nat} (h : x < 18446744073709551616 ^ 4) : val M64 (elN x) = x := by
  rw [pow4] at h
  simp only [elN, val, M64]
  omega
theorem elN_val {l : List Nat} (hl : l.length = 4) (h : ∀ d ∈ l, d < M64) : elN (val M64 l) = l := by
  obtain ⟨a, b, c, d, rfl⟩ := four hl
  have ha := h a (by simp)
  have hb := h b (by simp)
  have hc := h c (by simp)
  have hd := h d (by simp)
  simp only [M64] at ha hb hc hd
  simp only [elN, val, M64, List.cons.injEq, and_true]
  omega
theorem elN_mod (x : Nat) : elN x = elN (x % 18446744073709551616 ^ 4) := by
  rw [pow4]
  simp only [elN, List.cons.injEq, and_true]
  omega
theorem product_eq (a b : Nat) (ha : a < 18446744073709551616 ^ 4) (hb : b < 18446744073709551616 ^ 4) : F_field_product (el a, el b) = some (el (a * b), el (a * b / 18446744073709551616 ^ 4)) := by
  have hA := elN_lt a
  have hB := elN_lt b
  rw [el_natR, el_natR, product_words rfl rfl hA hB]
  have hv := prodp_val (W := M64) (by decide) (elN a) (elN b) 4 8 rfl (i := 4) (Nat.le_refl _) (Nat.le_refl _)
  rw [List.take_of_length_le (l := elN a) (i := 4) (Nat.le_refl 4), val_elN ha, val_elN hb] at hv
  have hlt := prodp_lt (n := 4) (m := 8) (W := M64) (by decide) hA hB 4
  generalize hp : prodp M64 (elN a) (elN b) 4 8 4 = p at hv hlt
  have hpl : p.length = 8 := by rw [← hp]; simp
  have h1 : ∀ d ∈ p.take 4, d < M64 := fun d hd => hlt d (List.mem_of_mem_take hd)
  have h2 : ∀ d ∈ p.drop 4, d < M64 := fun d hd => hlt d (List.mem_of_mem_drop hd)
  have hs : val M64 p = val M64 (p.take 4) + M64 ^ 4 * val M64 (p.drop 4) := by
    conv => lhs; rw [← List.take_append_drop 4 p]
    rw [val_append, List.length_take, hpl]; rfl
  have hl := val_lt h1
  rw [List.length_take, hpl, show min 4 8 = 4 from rfl] at hl
  rw [hv] at hs
  have e1 : a * b % M64 ^ 4 = val M64 (p.take 4) := by rw [hs, Nat.add_mul_mod_self_left, Nat.mod_eq_of_lt hl]
  have e2 : a * b / M64 ^ 4 = val M64 (p.drop 4) := by rw [hs, Nat.add_mul_div_left _ _ (by decide), Nat.div_eq_of_lt hl, Nat.zero_add]
  have f1 : elN (a * b) = p.take 4 := by
    rw [elN_mod, show a * b % 18446744073709551616 ^ 4 = val M64 (p.take 4) from e1, elN_val (by simp [hpl]) h1]
  have f2 : elN (a * b / 18446744073709551616 ^ 4) = p.drop 4 := by
    rw [show a * b / 18446744073709551616 ^ 4 = val M64 (p.drop 4) from e2, elN_val (by simp [hpl]) h2]
  rw [el_natR, el_natR, f1, f2]
theorem mul_step (m v W k : Nat) (hW : 0 < W) : (m * (v / W ^ k % W) + m * (v % W ^ k) / W ^ k) % W = m * v / W ^ k % W ∧ (m * (v / W ^ k % W) + m * (v % W ^ k) / W ^ k) / W = m * (v % W ^ (k + 1)) / W ^ (k + 1) := by
  have hk : 0 < W ^ k := Nat.pow_pos hW
  have h1 : m * (v % W ^ (k + 1)) / W ^ k = m * (v / W ^ k % W) + m * (v % W ^ k) / W ^ k := by
    rw [Nat.mod_pow_succ, Nat.mul_add, show m * (W ^ k * (v / W ^ k % W)) = W ^ k * (m * (v / W ^ k % W)) by ac_rfl, Nat.add_mul_div_left _ _ hk, Nat.add_comm]
  refine ⟨?_, ?_⟩
  · rw [← h1]
    have h2 : m * v = m * (v % W ^ (k + 1)) + W ^ k * (W * (m * (v / W ^ (k + 1)))) := by
      conv => lhs; rw [← Nat.div_add_mod v (W ^ (k + 1))]
      rw [Nat.mul_add, Nat.pow_succ, Nat.add_comm]; congr 1; ac_rfl
    rw [h2, Nat.add_mul_div_left _ _ hk, Nat.add_mul_mod_self_left]
  · rw [← h1, Nat.div_div_eq_div_mul, Nat.pow_succ]
theorem set_cut {l m : List Nat} {k : Nat} (hk : k < l.length) (hl : l.length = m.length) : (l.take k ++ m.drop k).set k (l.getD k 0) = l.take (k + 1) ++ m.drop (k + 1) := by
  have hx : l[k]? = some (l.getD k 0) := by rw [List.getD, List.getElem?_eq_getElem hk]; rfl
  rw [List.set_append_right _ _ (by simp; omega), List.length_take, Nat.min_eq_left (by omega), Nat.sub_self, List.take_add_one, hx]
  cases hd : m.drop k with
  | nil => exact absurd (congrArg List.length hd) (by simp; omega)
  | cons a r =>
    have : m.drop (k + 1) = r := by rw [← List.drop_drop, hd]; rfl
    rw [this]; simp
theorem elN_getD (x : Nat) : ∀ {i : Nat}, i < 4 → (elN x).getD i 0 = x / 18446744073709551616 ^ i % 18446744073709551616
  | 0, _ => by rw [pow0]; rfl
  | 1, _ => by rw [pow1]; rfl
  | 2, _ => by rw [pow2]; rfl
  | 3, _ => by rw [pow3]; rfl
  | i + 4, h => by omega
set_option maxHeartbeats 1000000 in
theorem times38_eq (a : Nat) (ha : a < 18446744073709551616 ^ 4) : F_field_times38 (el a) = some (el (38 * a), ((38 * a / 18446744073709551616 ^ 4 : Nat) : Int)) := by
  unfold F_field_times38
  simp only [List.getD_cons_zero, List.getD_cons_succ]
  rw [el_row, el_natR]
  have hcl : ∀ k, 38 * (a % 18446744073709551616 ^ k) / 18446744073709551616 ^ k ≤ 38 := fun k => by
    have h1 := Nat.mod_lt a (show 0 < 18446744073709551616 ^ k from Nat.pow_pos (by decide))
    rw [Nat.div_le_iff_le_mul_add_pred (Nat.pow_pos (by decide))]
    have := Nat.mul_le_mul_left 38 (Nat.le_of_lt h1)
    omega
  refine (congrArg (loopO _) ?_).trans (loopO_run (ι := Nat) (fun k => (natR ((elN (38 * a)).take k ++ (elN a).drop k), ((38 * (a % 18446744073709551616 ^ k) / 18446744073709551616 ^ k : Nat) : Int), ((natR (elN a)).getD 0 0, (natR (elN a)).getD 1 0, (natR (elN a)).getD 2 0, (natR (elN a)).getD 3 0), (k : Int)))
    (fun _ => (natR (elN (38 * a)), ((38 * a / 18446744073709551616 ^ 4 : Nat) : Int))) (fun k => k ≤ 4) (fun k => 4 - k) ?_ 0 (by omega))
  · simp only [Nat.pow_zero, Nat.mod_one, Nat.mul_zero, Nat.zero_div]; rfl
  · intro k hk
    dsimp only
    have hln : (natR ((elN (38 * a)).take k ++ (elN a).drop k)).length = 4 := by simp [elN]; omega
    by_cases hkt : k < 4
    · left
      refine ⟨k + 1, ?_, by omega, by omega, rfl⟩
      have hx := word_lt a k
      obtain ⟨m1, m2⟩ := mul_step 38 a 18446744073709551616 k (by decide)
      have hc := hcl k
      rw [if_pos (by simp; omega), if_pos (by omega), Int.toNat_natCast, getI4 _ hkt, Option.bind_some, natR_getD (elN a) k, elN_getD a hkt, show (38 : Int) = ((38 : Nat) : Int) from rfl, mul64_eq _ _ hx (by decide), Option.bind_some]
      simp only
      generalize hw : a / 18446744073709551616 ^ k % 18446744073709551616 = w at *
      generalize hg : 38 * (a % 18446744073709551616 ^ k) / 18446744073709551616 ^ k = c at *
      have s1 : adc ((w * 38 % 18446744073709551616 : Nat) : Int) (c : Int) 0 = ((38 * a / 18446744073709551616 ^ k % 18446744073709551616 : Nat) : Int) := by rw [adc_nat0, ← m1]; omega
      have s2 : wu64 (((w * 38 / 18446744073709551616 : Nat) : Int) + adcC ((w * 38 % 18446744073709551616 : Nat) : Int) (c : Int) 0) = ((38 * (a % 18446744073709551616 ^ (k + 1)) / 18446744073709551616 ^ (k + 1) : Nat) : Int) := by
        rw [adcC_nat0, show ((w * 38 / 18446744073709551616 : Nat) : Int) + (((w * 38 % 18446744073709551616 + c) / 18446744073709551616 : Nat) : Int) = ((w * 38 / 18446744073709551616 + (w * 38 % 18446744073709551616 + c) / 18446744073709551616 : Nat) : Int) by omega, wu64_nat, ← m2]; omega
      rw [if_pos ⟨by omega, by omega, by decide, by decide⟩, if_pos (by omega), Nat.zero_add, Nat.mul_one, if_pos (by omega), if_pos (by omega), s1, s2]
      refine bind_to (bind_to (bind_to (setT4 hln _ hkt) rfl) rfl) ?_
      rw [natR_set, ← elN_getD (38 * a) hkt, set_cut (l := elN (38 * a)) (m := elN a) (k := k) (by simp [elN]; omega) rfl, w64_nx (by omega)]
    · right
      have hk4 : k = 4 := by omega
      subst hk4
      rw [if_neg (by simp), Nat.mod_eq_of_lt ha, row4 (by simp [elN]), List.take_of_length_le (l := elN (38 * a)) (i := 4) (Nat.le_refl 4), List.drop_of_length_le (l := elN a) (i := 4) (Nat.le_refl 4), List.append_nil]
theorem fold_mod (x y : Nat) : (x + 18446744073709551616 ^ 4 * y) % prm = (x + 38 * y) % prm := by
  rw [show 18446744073709551616 ^ 4 * y = 38 * y + prm * (2 * y) by
    rw [show (18446744073709551616 : Nat) ^ 4 = 38 + prm * 2 by decide, Nat.add_mul, Nat.mul_assoc], ← Nat.add_assoc, Nat.add_mul_mod_self_left]
theorem f_mul_eq (a b : Nat) (ha : a < 18446744073709551616 ^ 4) (hb : b < 18446744073709551616 ^ 4) : F_field_Mul (el a, el b) = some (el (a * b % prm)) := by
  unfold F_field_Mul
  simp only [List.getD_cons_zero, List.getD_cons_succ]
  have hW : 0 < (18446744073709551616 : Nat) ^ 4 := by decide
  have htop : a * b / 18446744073709551616 ^ 4 < 18446744073709551616 ^ 4 := by
    rw [Nat.div_lt_iff_lt_mul hW]
    exact Nat.lt_of_le_of_lt (Nat.mul_le_mul_right b (Nat.le_of_lt ha)) (Nat.mul_lt_mul_of_pos_left hb hW)
  have hel : ∀ x, el x = el (x % 18446744073709551616 ^ 4) := fun x => by rw [el_natR, el_natR, ← elN_mod]
  have hab := Nat.div_add_mod (a * b) (18446744073709551616 ^ 4)
  have hl := Nat.mod_lt (a * b) hW
  rw [el_row, el_row, product_eq a b ha hb, Option.bind_some]
  simp only
  rw [el_row, el_row, times38_eq _ htop, Option.bind_some]
  simp only
  rw [el_row, hel (a * b)]
  generalize a * b % 18446744073709551616 ^ 4 = low at hab hl ⊢
  generalize a * b / 18446744073709551616 ^ 4 = top at hab htop ⊢
  have hd := Nat.mod_lt (38 * top) hW
  have hda := Nat.div_add_mod (38 * top) (18446744073709551616 ^ 4)
  have hov : 38 * top / 18446744073709551616 ^ 4 ≤ 37 := by
    have : 38 * top < 38 * 18446744073709551616 ^ 4 := Nat.mul_lt_mul_of_pos_left htop (by decide)
    rw [Nat.mul_comm 38 (18446744073709551616 ^ 4)] at this
    have := Nat.div_lt_of_lt_mul this
    omega
  rw [hel (38 * top)]
  generalize 38 * top % 18446744073709551616 ^ 4 = down at hd hda ⊢
  generalize 38 * top / 18446744073709551616 ^ 4 = over at hda hov ⊢
  rw [plus_eq _ _ hl hd, Option.bind_some]
  simp only
  have hs1 := Nat.mod_lt (low + down) hW
  have hsa := Nat.div_add_mod (low + down) (18446744073709551616 ^ 4)
  have hc1 : (low + down) / 18446744073709551616 ^ 4 ≤ 1 := by
    have : low + down < 18446744073709551616 ^ 4 * 2 := by omega
    have := Nat.div_lt_of_lt_mul this
    omega
  rw [el_row, hel (low + down)]
  generalize (low + down) % 18446744073709551616 ^ 4 = s1 at hs1 hsa ⊢
  generalize (low + down) / 18446744073709551616 ^ 4 = c1 at hsa hc1 ⊢
  have hk1 : [wu64 (38 * wu64 ((over : Int) + (c1 : Int))), 0, 0, 0] = el (38 * (over + c1)) := by
    rw [show (over : Int) + (c1 : Int) = ((over + c1 : Nat) : Int) by omega, wu64_nat, Nat.mod_eq_of_lt (by omega), show (38 : Int) * ((over + c1 : Nat) : Int) = ((38 * (over + c1) : Nat) : Int) by omega, wu64_nat, Nat.mod_eq_of_lt (by omega), el_small (by omega)]
  rw [hk1, plus_eq _ _ hs1 (by rw [pow4]; omega), Option.bind_some]
  simp only
  have hs2 := Nat.mod_lt (s1 + 38 * (over + c1)) hW
  have hsb := Nat.div_add_mod (s1 + 38 * (over + c1)) (18446744073709551616 ^ 4)
  have hc2 : (s1 + 38 * (over + c1)) / 18446744073709551616 ^ 4 ≤ 1 := by
    have : s1 + 38 * (over + c1) < 18446744073709551616 ^ 4 * 2 := by rw [pow4] at hs1 ⊢; omega
    have := Nat.div_lt_of_lt_mul this
    omega
  rw [el_row, hel (s1 + 38 * (over + c1))]
  generalize (s1 + 38 * (over + c1)) % 18446744073709551616 ^ 4 = s2 at hs2 hsb ⊢
  generalize (s1 + 38 * (over + c1)) / 18446744073709551616 ^ 4 = c2 at hsb hc2 ⊢
  have hk2 : [wu64 (38 * (c2 : Int)), 0, 0, 0] = el (38 * c2) := by
    rw [show (38 : Int) * (c2 : Int) = ((38 * c2 : Nat) : Int) by omega, wu64_nat, Nat.mod_eq_of_lt (by omega), el_small (by omega)]
  rw [hk2, plus_eq _ _ hs2 (by rw [pow4]; omega), Option.bind_some]
  simp only
  have hs3 : s2 + 38 * c2 < 18446744073709551616 ^ 4 := by
    rw [pow4] at hs1 hs2 hsb ⊢
    have : c2 = 0 ∨ c2 = 1 := by omega
    rcases this with rfl | rfl <;> omega
  rw [el_row, reduce_eq _ hs3, Option.bind_some, el_row]
  congr 2
  have m1 : a * b % prm = (low + 38 * top) % prm := by rw [← hab, Nat.add_comm, fold_mod]
  have m2 : (low + 38 * top) % prm = (s1 + 38 * (over + c1)) % prm := by
    rw [← fold_mod s1 (over + c1), Nat.mul_add, ← hda]
    congr 1; omega
  have m3 : (s1 + 38 * (over + c1)) % prm = (s2 + 38 * c2) % prm := by
    rw [← hsb, Nat.add_comm, fold_mod]
  rw [m1, m2, m3]
end Go.Proofs.Ytffofdfikmpanaa.A
namespace Go.Proofs.Ytffofdfikmpanaa.A
set_option linter.unusedVariables false
set_option linter.unusedSimpArgs false
set_option maxRecDepth 10000
theorem wu64_two (x y : Nat) : wu64 ((x : Int) + (y : Int)) = (((x + y) % 18446744073709551616 : Nat) : Int) := by rw [wu64_eq]; omega
theorem more_carry {x y c : Nat} (hx : x < 18446744073709551616) (hy : y < 18446744073709551616) (hc : c ≤ 1) :
    (if decide ((((x + y) % 18446744073709551616 : Nat) : Int) < (x : Int)) = false then some (decide (((((x + y) % 18446744073709551616 + c) % 18446744073709551616 : Nat) : Int) < (((x + y) % 18446744073709551616 : Nat) : Int))) else some true : Option Bool) = some (decide (18446744073709551616 ≤ x + y + c)) := by
  by_cases h : (x + y) % 18446744073709551616 < x
  · rw [if_neg (by simp only [decide_eq_false_iff_not]; omega), decide_eq_true (by omega)]
  · rw [if_pos (by simp only [decide_eq_false_iff_not]; omega)]
    refine congrArg some (decide_eq_decide.2 ?_)
    omega
set_option maxHeartbeats 1000000 in
theorem more_eq (a b : Nat) (ha : a < 18446744073709551616 ^ 4) (hb : b < 18446744073709551616 ^ 4) :
    F_affiantref11_More (el a, el b) = some (el (a + b), decide (18446744073709551616 ^ 4 ≤ a + b)) := by
  unfold F_affiantref11_More
  simp only [List.getD_cons_zero, List.getD_cons_succ]
  rw [el_row, el_row, el_natR a, el_natR b]
  have ha4 : (elN a).length = 4 := rfl
  have hb4 : (elN b).length = 4 := rfl
  have h4 := cy_eq a b 0 4
  rw [Nat.div_eq_of_lt ha, Nat.div_eq_of_lt hb, Nat.add_zero, Nat.zero_add] at h4
  refine (congrArg (loopO _) ?_).trans (loopO_run (ι := Nat) (fun k => (natR (elN a), natR (elN b), natR ((elN (a + b)).take k ++ [0, 0, 0, 0].drop k), ((cy a b 0 k : Nat) : Int), (k : Int)))
    (fun _ => (el (a + b), decide (18446744073709551616 ^ 4 ≤ a + b))) (fun k => k ≤ 4) (fun k => 4 - k) ?_ 0 (by omega))
  · rfl
  · intro k hk
    dsimp only
    have hln : (natR ((elN (a + b)).take k ++ [0, 0, 0, 0].drop k)).length = 4 := by simp [elN]; omega
    by_cases hkt : k < 4
    · left
      refine ⟨k + 1, ?_, by omega, by omega, rfl⟩
      have hx := word_lt a k
      have hy := word_lt b k
      have hc := cy_le a b 0 (by decide) k
      rw [if_pos (by simp; omega), if_pos (by omega), Int.toNat_natCast, Nat.zero_add, Nat.mul_one, if_pos (by omega), getT4 _ hkt, Option.bind_some, T.val?, Option.bind_some, int?_int, Option.bind_some, natR_getD (elN a) k, elN_getD a hkt,
        if_pos (by omega), if_pos (by omega), getT4 _ hkt, Option.bind_some, T.val?, Option.bind_some, int?_int, Option.bind_some, natR_getD (elN b) k, elN_getD b hkt]
      have hs : (a + b) / 18446744073709551616 ^ k % 18446744073709551616 = (a / 18446744073709551616 ^ k % 18446744073709551616 + b / 18446744073709551616 ^ k % 18446744073709551616 + cy a b 0 k) % 18446744073709551616 := cy_mod a b 0 k
      have hcn : cy a b 0 (k + 1) = (a / 18446744073709551616 ^ k % 18446744073709551616 + b / 18446744073709551616 ^ k % 18446744073709551616 + cy a b 0 k) / 18446744073709551616 := rfl
      generalize a / 18446744073709551616 ^ k % 18446744073709551616 = x at *
      generalize b / 18446744073709551616 ^ k % 18446744073709551616 = y at *
      generalize cy a b 0 k = c at *
      rw [wu64_two, wu64_two]
      refine bind_to (v := decide (18446744073709551616 ≤ x + y + c)) ?_ ?_
      · rw [if_pos (by omega), if_pos (by omega)]; exact more_carry hx hy hc
      · refine bind_to (v := Sum.inl ((cy a b 0 (k + 1) : Nat) : Int)) ?_ ?_
        · rw [hcn]
          by_cases hle : 18446744073709551616 ≤ x + y + c
          · rw [if_pos (by simpa using hle), show (x + y + c) / 18446744073709551616 = 1 by omega]; rfl
          · rw [if_neg (by simpa using hle), show (x + y + c) / 18446744073709551616 = 0 by omega]; rfl
        · dsimp only
          rw [if_pos (by omega), if_pos (by omega), if_pos (by omega)]
          refine bind_to (bind_to (bind_to (bind_to (bind_to (setT4 hln _ hkt) rfl) rfl) rfl) rfl) ?_
          dsimp only
          rw [row4 ha4, row4 hb4, natR_set, show ((x + y) % 18446744073709551616 + c) % 18446744073709551616 = (elN (a + b)).getD k 0 by rw [elN_getD (a + b) hkt, hs]; omega, set_cut (l := elN (a + b)) (m := [0, 0, 0, 0]) (k := k) hkt rfl, w64_nx (by omega)]
    · right
      have hk4 : k = 4 := by omega
      subst hk4
      rw [if_neg (by simp), row4 (by simp [elN]), List.take_of_length_le (l := elN (a + b)) (i := 4) (Nat.le_refl 4), ← h4]
      simp only [List.drop, List.append_nil]
      have hle : (a + b) / 18446744073709551616 ^ 4 ≤ 1 := by
        have : a + b < 18446744073709551616 ^ 4 * 2 := by omega
        have := Nat.div_lt_of_lt_mul this
        omega
      congr 3
      rw [pow4] at *
      rw [Bool.eq_iff_iff, beq_iff_eq, decide_eq_true_eq]
      omega
theorem less_step {x d y c : Nat} (hd : d < 18446744073709551616) (hx : x = (d + y + c) % 18446744073709551616) (hy : y < 18446744073709551616) (hc : c ≤ 1) :
    wu64 (wu64 ((x : Int) - (y : Int)) - (c : Int)) = (d : Int) := by
  simp only [wu64_eq]; omega
theorem less_carry {x d y c : Nat} (hd : d < 18446744073709551616) (hx : x = (d + y + c) % 18446744073709551616) (hy : y < 18446744073709551616) (hc : c ≤ 1) :
    (if decide ((x : Int) < (y : Int)) = false then (if ((x : Int) == (y : Int)) = true then some ((c : Int) == 1) else some false) else some true : Option Bool) = some (decide (18446744073709551616 ≤ d + y + c)) := by
  by_cases h : x < y
  · rw [if_neg (by simp only [decide_eq_false_iff_not]; omega), decide_eq_true (by omega)]
  · rw [if_pos (by simp only [decide_eq_false_iff_not]; omega)]
    by_cases he : x = y
    · rw [if_pos (by simp only [beq_iff_eq]; omega)]
      refine congrArg some ?_
      rw [Bool.eq_iff_iff, beq_iff_eq, decide_eq_true_eq]
      omega
    · rw [if_neg (by simp only [beq_iff_eq]; omega), decide_eq_false (by omega)]
set_option maxHeartbeats 1000000 in
theorem less_eq (a b : Nat) (ha : a < 18446744073709551616 ^ 4) (hb : b < 18446744073709551616 ^ 4) :
    F_affiantref11_Less (el a, el b) = some (el (dif a b), decide (a < b)) := by
  unfold F_affiantref11_Less
  simp only [List.getD_cons_zero, List.getD_cons_succ]
  rw [el_row, el_row, el_natR a, el_natR b]
  have ha4 : (elN a).length = 4 := rfl
  have hb4 : (elN b).length = 4 := rfl
  have h4 : cy (dif a b) b 0 4 = if a < b then 1 else 0 := by
    have h := cy_eq (dif a b) b 0 4
    rw [Nat.div_eq_of_lt (dif_lt ha hb), Nat.div_eq_of_lt hb, Nat.add_zero, Nat.zero_add, dif_add hb] at h
    rw [← h]
    split
    · rw [Nat.add_div_right _ (Nat.pow_pos (by decide)), Nat.div_eq_of_lt ha]
    · rw [Nat.div_eq_of_lt ha]
  refine (congrArg (loopO _) ?_).trans (loopO_run (ι := Nat) (fun k => (natR (elN a), natR (elN b), natR ((elN (dif a b)).take k ++ [0, 0, 0, 0].drop k), ((cy (dif a b) b 0 k : Nat) : Int), (k : Int)))
    (fun _ => (el (dif a b), decide (a < b))) (fun k => k ≤ 4) (fun k => 4 - k) ?_ 0 (by omega))
  · rfl
  · intro k hk
    dsimp only
    have hln : (natR ((elN (dif a b)).take k ++ [0, 0, 0, 0].drop k)).length = 4 := by simp [elN]; omega
    by_cases hkt : k < 4
    · left
      refine ⟨k + 1, ?_, by omega, by omega, rfl⟩
      have hd := word_lt (dif a b) k
      have hy := word_lt b k
      have hc := cy_le (dif a b) b 0 (by decide) k
      rw [if_pos (by simp; omega), if_pos (by omega), Int.toNat_natCast, Nat.zero_add, Nat.mul_one, if_pos (by omega), getT4 _ hkt, Option.bind_some, T.val?, Option.bind_some, int?_int, Option.bind_some, natR_getD (elN a) k, elN_getD a hkt,
        if_pos (by omega), if_pos (by omega), getT4 _ hkt, Option.bind_some, T.val?, Option.bind_some, int?_int, Option.bind_some, natR_getD (elN b) k, elN_getD b hkt, if_pos (by omega), if_pos (by omega), if_pos (by omega)]
      have hs : a / 18446744073709551616 ^ k % 18446744073709551616 = (dif a b / 18446744073709551616 ^ k % 18446744073709551616 + b / 18446744073709551616 ^ k % 18446744073709551616 + cy (dif a b) b 0 k) % 18446744073709551616 := by rw [dif_word hb k hkt, cy_mod]
      have hcn : cy (dif a b) b 0 (k + 1) = (dif a b / 18446744073709551616 ^ k % 18446744073709551616 + b / 18446744073709551616 ^ k % 18446744073709551616 + cy (dif a b) b 0 k) / 18446744073709551616 := rfl
      have hdk := elN_getD (dif a b) hkt
      generalize dif a b / 18446744073709551616 ^ k % 18446744073709551616 = d at *
      generalize a / 18446744073709551616 ^ k % 18446744073709551616 = x at *
      generalize b / 18446744073709551616 ^ k % 18446744073709551616 = y at *
      generalize cy (dif a b) b 0 k = c at *
      rw [less_step hd hs hy hc]
      refine bind_to (v := decide (18446744073709551616 ≤ d + y + c)) ?_ ?_
      · have hk3 : 0 ≤ (k : Int) ∧ (k : Int) < 4 := by omega
        simp only [Option.bind_some, T.val?, int?_int, if_pos hk3, if_pos hkt]
        exact less_carry hd hs hy hc
      · refine bind_to (v := Sum.inl ((cy (dif a b) b 0 (k + 1) : Nat) : Int)) ?_ ?_
        · rw [hcn]
          by_cases hle : 18446744073709551616 ≤ d + y + c
          · rw [if_pos (by simpa using hle), show (d + y + c) / 18446744073709551616 = 1 by omega]; rfl
          · rw [if_neg (by simpa using hle), show (d + y + c) / 18446744073709551616 = 0 by omega]; rfl
        · dsimp only
          refine bind_to (bind_to (bind_to (bind_to (bind_to (setT4 hln _ hkt) rfl) rfl) rfl) rfl) ?_
          dsimp only
          rw [row4 ha4, row4 hb4, natR_set, ← hdk, set_cut (l := elN (dif a b)) (m := [0, 0, 0, 0]) (k := k) hkt rfl, w64_nx (by omega)]
    · right
      have hk4 : k = 4 := by omega
      subst hk4
      rw [if_neg (by simp), row4 (by simp [elN]), List.take_of_length_le (l := elN (dif a b)) (i := 4) (Nat.le_refl 4), h4]
      simp only [List.drop, List.append_nil]
      congr 3
      rw [Bool.eq_iff_iff, beq_iff_eq, decide_eq_true_eq]
      split <;> simp_all
theorem below_eq (a m : Nat) (ha : a < 18446744073709551616 ^ 4) (hm : m < 18446744073709551616 ^ 4) (h0 : 0 < m) : F_affiantref11_Below (el a, el m) = some (el (a % m)) := by
  unfold F_affiantref11_Below
  simp only [List.getD_cons_zero, List.getD_cons_succ]
  rw [el_row, el_row]
  refine (loopO_run (ι := Nat) (fun x => (el x, el m, [0, 0, 0, 0])) (fun x => el (x % m)) (fun x => x < 18446744073709551616 ^ 4) (fun x => x) ?_ a ha)
  intro x hx
  dsimp only
  rw [el_row, el_row, less_eq x m hx hm, Option.bind_some]
  simp only
  by_cases hlt : x < m
  · right
    rw [if_pos (by simpa using hlt), Nat.mod_eq_of_lt hlt]
  · left
    refine ⟨x - m, ?_, by omega, by omega, congrArg el (Nat.mod_eq_sub_mod (a := x) (b := m) (by omega)).symm⟩
    rw [if_neg (by simpa using hlt)]
    have : dif x m = x - m := by unfold dif; rw [if_neg hlt]
    rw [this]; rfl
theorem rprime_eq : F_affiantref11_Prime PUnit.unit = some (el prm) := by
  have : el prm = [18446744073709551597, 18446744073709551615, 18446744073709551615, 9223372036854775807] := by decide +kernel
  rw [this]; rfl
theorem rreduce_eq (a : Nat) (ha : a < 18446744073709551616 ^ 4) : F_affiantref11_Reduce (el a) = some (el (a % prm)) := by
  unfold F_affiantref11_Reduce
  simp only [List.getD_cons_zero, List.getD_cons_succ]
  rw [rprime_eq, Option.bind_some, el_row, el_row, below_eq a prm ha (by decide) (by decide), Option.bind_some, el_row]
theorem r_add_eq (a b : Nat) (ha : a < 18446744073709551616 ^ 4) (hb : b < 18446744073709551616 ^ 4) : F_affiantref11_Add (el a, el b) = some (el ((a + b) % prm)) := by
  unfold F_affiantref11_Add
  simp only [List.getD_cons_zero, List.getD_cons_succ]
  have h1 : a % prm + b % prm < 2 * prm := by
    have := Nat.mod_lt a (show 0 < prm by decide)
    have := Nat.mod_lt b (show 0 < prm by decide)
    omega
  have h2 : 2 * prm < 18446744073709551616 ^ 4 := by decide
  rw [el_row, el_row, rreduce_eq a ha, Option.bind_some, rreduce_eq b hb, Option.bind_some, el_row, el_row, more_eq _ _ (mod_prm_lt a) (mod_prm_lt b), Option.bind_some]
  simp only
  rw [el_row, rreduce_eq _ (by omega), Option.bind_some, el_row, ← Nat.add_mod]
theorem r_sub_eq (a b : Nat) (ha : a < 18446744073709551616 ^ 4) (hb : b < 18446744073709551616 ^ 4) : F_affiantref11_Sub (el a, el b) = some (el ((a + (prm - b % prm)) % prm)) := by
  unfold F_affiantref11_Sub
  simp only [List.getD_cons_zero, List.getD_cons_succ]
  have h1 := Nat.mod_lt a (show 0 < prm by decide)
  have h2 := Nat.mod_lt b (show 0 < prm by decide)
  have h3 : (a + (prm - b % prm)) % prm = if a % prm < b % prm then a % prm + prm - b % prm else a % prm - b % prm := by
    rw [Nat.add_mod]
    by_cases h0 : b % prm = 0
    · rw [h0, Nat.sub_zero, Nat.mod_self, Nat.add_zero, Nat.mod_mod, if_neg (by omega), Nat.sub_zero]
    · rw [Nat.mod_eq_of_lt (show prm - b % prm < prm by omega)]
      split
      · rw [Nat.mod_eq_of_lt (by omega)]; omega
      · rw [Nat.mod_eq_sub_mod (by omega), Nat.mod_eq_of_lt (by omega)]; omega
  rw [el_row, el_row, rreduce_eq a ha, Option.bind_some, rreduce_eq b hb, Option.bind_some, el_row, el_row, less_eq _ _ (mod_prm_lt a) (mod_prm_lt b), Option.bind_some, h3]
  simp only
  by_cases hlt : a % prm < b % prm
  · have hd : el (dif (a % prm) (b % prm) + prm) = el (a % prm + prm - b % prm) := by
      have hp : (18446744073709551616 : Nat) ^ 4 = 115792089237316195423570985008687907853269984665640564039457584007913129639936 := pow4
      have : dif (a % prm) (b % prm) + prm = a % prm + prm - b % prm + 18446744073709551616 ^ 4 := by
        unfold dif; rw [if_pos hlt, hp]; unfold prm at *; omega
      rw [this, elP, elP, top_mod _ 0 (by decide), top_mod _ 1 (by decide), top_mod _ 2 (by decide), top_mod _ 3 (by decide)]
    refine bind_to (v := .inl (el (a % prm + prm - b % prm))) ?_ ?_
    · rw [if_pos (by simpa using hlt), rprime_eq, Option.bind_some, el_row, el_row, more_eq _ _ (dif_lt (mod_prm_lt a) (mod_prm_lt b)) (by decide), Option.bind_some]
      simp only
      rw [el_row, hd]
    · rw [if_pos hlt]; rfl
  · refine bind_to (v := .inl (el (a % prm - b % prm))) ?_ ?_
    · rw [if_neg (by simpa using hlt), el_row]; unfold dif; rw [if_neg hlt]
    · rw [if_neg hlt]; rfl
end Go.Proofs.Ytffofdfikmpanaa.A
namespace Go.Proofs.Ytffofdfikmpanaa.A
set_option linter.unusedVariables false
set_option linter.unusedSimpArgs false
set_option maxRecDepth 10000
theorem row8 {l : List Nat} (h : l.length = 8) : fitI (natR l) 0 8 = natR l := fitI_eq (by simpa using h)
def hv (a : Nat) : List Nat := (List.range 8).map fun k => (elN a).getD (k / 2) 0 / 2 ^ (32 * (k % 2)) % 4294967296
@[simp] theorem hv_length (a : Nat) : (hv a).length = 8 := by simp [hv]
theorem hv_getD (a : Nat) {k : Nat} (h : k < 8) : (hv a).getD k 0 = (elN a).getD (k / 2) 0 / 2 ^ (32 * (k % 2)) % 4294967296 := by simp [hv, List.getD, h]
theorem hv_lt (a : Nat) : ∀ d ∈ hv a, d < 4294967296 := by
  intro d hd
  simp only [hv, List.mem_map] at hd
  obtain ⟨k, _, rfl⟩ := hd
  exact Nat.mod_lt _ (by decide)
theorem halves_sum {a x0 x1 x2 x3 p0 q0 p1 q1 p2 q2 p3 q3 : Nat} (h0 : p0 + 4294967296 * q0 = x0) (h1 : p1 + 4294967296 * q1 = x1) (h2 : p2 + 4294967296 * q2 = x2) (h3 : p3 + 4294967296 * q3 = x3)
    (hw : x0 + 18446744073709551616 * (x1 + 18446744073709551616 * (x2 + 18446744073709551616 * (x3 + 18446744073709551616 * 0))) = a) :
    p0 + 4294967296 * (q0 + 4294967296 * (p1 + 4294967296 * (q1 + 4294967296 * (p2 + 4294967296 * (q2 + 4294967296 * (p3 + 4294967296 * (q3 + 4294967296 * 0))))))) = a := by omega
theorem half_two {x : Nat} (hx : x < 18446744073709551616) : x / 2 ^ (32 * (0 % 2)) % 4294967296 + 4294967296 * (x / 2 ^ (32 * (1 % 2)) % 4294967296) = x := by
  rw [show (2 : Nat) ^ (32 * (0 % 2)) = 1 from rfl, show (2 : Nat) ^ (32 * (1 % 2)) = 4294967296 from rfl]; omega
theorem hv_val {a : Nat} (h : a < 18446744073709551616 ^ 4) : val 4294967296 (hv a) = a := by
  have hlt := fun i => getD_lt2 (B := M64) (by decide) (elN_lt a) i
  exact halves_sum (half_two (hlt 0)) (half_two (hlt 1)) (half_two (hlt 2)) (half_two (hlt 3)) (val_elN h)
theorem and32 {v : Nat} (hv : v < 18446744073709551616) : wordAnd .u64 (v : Int) 4294967295 = ((v % 4294967296 : Nat) : Int) := by
  rw [show (4294967295 : Int) = ((4294967295 : Nat) : Int) from rfl, wordAnd_u64 hv (by decide), show (4294967295 : Nat) = 2 ^ 32 - 1 from rfl, Nat.and_two_pow_sub_one_eq_mod]
theorem shr32 (v : Nat) : wordShr .u64 (v : Int) 32 = ((v / 4294967296 : Nat) : Int) := by
  rw [show (32 : Int) = ((32 : Nat) : Int) from rfl, wordShr_u64 _ 32 (by omega)]
set_option maxHeartbeats 1000000 in
theorem halves_eq (a : Nat) : F_affiantref11_Halves (el a) = some (natR (hv a)) := by
  unfold F_affiantref11_Halves
  simp only [List.getD_cons_zero, List.getD_cons_succ]
  rw [el_row, el_natR]
  refine (congrArg (loopO _) ?_).trans (loopO_run (ι := Nat) (fun k => (natR (elN a), natR ((hv a).take k ++ (List.replicate 8 0).drop k), (k : Int))) (fun _ => natR (hv a)) (fun k => k ≤ 8) (fun k => 8 - k) ?_ 0 (by omega))
  · rfl
  · intro k hk
    dsimp only
    have hln : (natR ((hv a).take k ++ (List.replicate 8 0).drop k)).length = 8 := by simp; omega
    by_cases hkt : k < 8
    · left
      refine ⟨k + 1, ?_, by omega, by omega, rfl⟩
      have e1 : w64 (Int.tdiv (k : Int) 2) = ((k / 2 : Nat) : Int) := by rw [show Int.tdiv (k : Int) 2 = ((k / 2 : Nat) : Int) from rfl, w64_nat (by omega)]
      have e2 : wu64 (w64 (32 * Int.tmod (k : Int) 2)) = ((32 * (k % 2) : Nat) : Int) := by
        rw [show Int.tmod (k : Int) 2 = ((k % 2 : Nat) : Int) from rfl, show (32 : Int) * ((k % 2 : Nat) : Int) = ((32 * (k % 2) : Nat) : Int) by omega, w64_nat (by omega), wu64_nat, Nat.mod_eq_of_lt (by omega)]
      have hx : (elN a).getD (k / 2) 0 < 18446744073709551616 := getD_lt2 (by decide) (elN_lt a) _
      have hx2 : (elN a).getD (k / 2) 0 / 2 ^ (32 * (k % 2)) < 18446744073709551616 := Nat.lt_of_le_of_lt (Nat.div_le_self _ _) hx
      rw [if_pos (by simp; omega), e1, if_pos (by omega), Int.toNat_natCast, Nat.zero_add, Nat.mul_one, if_pos (by omega), getT4 _ (by omega), Option.bind_some, T.val?, Option.bind_some, int?_int, Option.bind_some, natR_getD (elN a) (k / 2), e2,
        if_neg (by omega), if_pos (by omega), Int.toNat_natCast, Nat.zero_add, Nat.mul_one, if_pos (by omega), if_pos (by omega), wordShr_u64 _ _ (by omega), and32 hx2]
      refine bind_to (bind_to (bind_to (bind_to (setT8 hln _ hkt) rfl) rfl) rfl) ?_
      dsimp only
      rw [row4 rfl, natR_set, ← hv_getD a hkt, set_cut (l := hv a) (m := List.replicate 8 0) (k := k) (by simpa using hkt) (by simp), w64_nx (by omega)]
    · right
      have hk8 : k = 8 := by omega
      subst hk8
      rw [if_neg (by simp), List.take_of_length_le (by simp)]
      have : (List.replicate 8 (0 : Nat)).drop 8 = [] := rfl
      rw [this, List.append_nil, row8 (by simp), row8 (by simp)]
end Go.Proofs.Ytffofdfikmpanaa.A
namespace Go.Proofs.Ytffofdfikmpanaa.A
set_option linter.unusedVariables false
set_option linter.unusedSimpArgs false
set_option maxRecDepth 10000
theorem w64_eight {i : Nat} (h : i < 4611686018427387904) : w64 ((i : Int) + 8) = ((i + 8 : Nat) : Int) := w64_nat (n := i + 8) (by omega)
theorem half_prod {x y p c : Nat} (hx : x < 4294967296) (hy : y < 4294967296) (hp : p < 4294967296) (hc : c < 4294967296) : x * y + p + c < 18446744073709551616 := by
  have := Nat.mul_le_mul (show x ≤ 4294967295 by omega) (show y ≤ 4294967295 by omega)
  omega
set_option maxHeartbeats 2000000 in
theorem rproduct_eq (a b : Nat) (ha : a < 18446744073709551616 ^ 4) (hb : b < 18446744073709551616 ^ 4) : F_affiantref11_Product (el a, el b) = some (numV .u64 (prodp 4294967296 (hv a) (hv b) 8 16 8)) := by
  unfold F_affiantref11_Product
  simp only [List.getD_cons_zero, List.getD_cons_succ]
  rw [el_row, el_row, halves_eq, Option.bind_some, halves_eq, Option.bind_some]
  have hA := hv_lt a
  have hB := hv_lt b
  have hP := prodp_lt (W := 4294967296) (n := 8) (m := 16) (by decide) hA hB
  have r8a : fitI (natR (hv a)) 0 8 = natR (hv a) := row8 (by simp)
  have r8b : fitI (natR (hv b)) 0 8 = natR (hv b) := row8 (by simp)
  refine (congrArg (loopO _) ?_).trans (loopO_run (ι := Nat) (fun i => (natR (hv a), natR (hv b), nT .u64 (prodp 4294967296 (hv a) (hv b) 8 16 i), (i : Int)))
    (fun _ => numV .u64 (prodp 4294967296 (hv a) (hv b) 8 16 8)) (fun i => i ≤ 8) (fun i => 8 - i) ?_ 0 (by omega))
  · simp only [r8a, r8b]; rfl
  · intro i hi
    dsimp only
    by_cases hlt : i < 8
    · left
      refine ⟨i + 1, ?_, by omega, by omega, rfl⟩
      rw [if_pos (by simp; omega)]
      simp only [r8a, r8b]
      have hx : (hv a).getD i 0 < 4294967296 := getD_lt2 (by decide) hA i
      have hC := rowc_lt (i := i) hx hB (hP i)
      refine (congrArg (loopO _) ?_).trans (loopO_run (ι := Nat) (fun k => (natR (hv a), natR (hv b), nT .u64 (rowp 4294967296 ((hv a).getD i 0) (hv b) (prodp 4294967296 (hv a) (hv b) 8 16 i) i k), (i : Int), ((rowc 4294967296 ((hv a).getD i 0) (hv b) (prodp 4294967296 (hv a) (hv b) 8 16 i) i k : Nat) : Int), (k : Int)))
        (fun _ => Sum.inl (natR (hv a), natR (hv b), nT .u64 (prodp 4294967296 (hv a) (hv b) 8 16 (i + 1)), ((i + 1 : Nat) : Int))) (fun k => k ≤ 8) (fun k => 8 - k) ?_ 0 (by omega))
      · rfl
      · intro k hk
        dsimp only
        by_cases hkt : k < 8
        · left
          refine ⟨k + 1, ?_, by omega, by omega, rfl⟩
          have hy : (hv b).getD k 0 < 4294967296 := getD_lt2 (by decide) hB k
          have hp : (prodp 4294967296 (hv a) (hv b) 8 16 i).getD (i + k) 0 < 4294967296 := getD_lt2 (by decide) (hP i) _
          have ht := half_prod hx hy hp (hC k)
          have hxy : (hv a).getD i 0 * (hv b).getD k 0 < 18446744073709551616 := by omega
          have hc := hC k
          have hsum : wu64 (wu64 (((rowc 4294967296 ((hv a).getD i 0) (hv b) (prodp 4294967296 (hv a) (hv b) 8 16 i) i k : Nat) : Int) + (((prodp 4294967296 (hv a) (hv b) 8 16 i).getD (i + k) 0 : Nat) : Int)) + wu64 ((((hv a).getD i 0 : Nat) : Int) * (((hv b).getD k 0 : Nat) : Int))) =
              (((hv a).getD i 0 * (hv b).getD k 0 + (prodp 4294967296 (hv a) (hv b) 8 16 i).getD (i + k) 0 + rowc 4294967296 ((hv a).getD i 0) (hv b) (prodp 4294967296 (hv a) (hv b) 8 16 i) i k : Nat) : Int) := by
            rw [← Int.natCast_mul, wu64_nat, Nat.mod_eq_of_lt hxy, wu64_two, Nat.mod_eq_of_lt (by omega), wu64_two, Nat.mod_eq_of_lt (by omega)]
            congr 1; omega
          rw [if_pos (by simp; omega), w64_two (by omega), if_pos (by omega), Int.toNat_natCast, Nat.zero_add, Nat.mul_one, if_pos (by simp; omega), nT_get (by simp; omega), Option.bind_some, T.val?, Option.bind_some, int?_int, Option.bind_some,
            rowp_get _ _ _ _ (.inl (Nat.le_refl _)), if_pos (by omega), Int.toNat_natCast, Nat.zero_add, Nat.mul_one, if_pos (by omega), getT8 _ hlt, Option.bind_some, T.val?, Option.bind_some, int?_int, Option.bind_some, natR_getD (hv a) i,
            if_pos (by omega), Int.toNat_natCast, Nat.zero_add, Nat.mul_one, if_pos (by omega), getT8 _ hkt, Option.bind_some, T.val?, Option.bind_some, int?_int, Option.bind_some, natR_getD (hv b) k, hsum,
            if_pos (by omega), if_pos (by simp; omega), if_pos (by simp; omega), and32 ht, shr32, nT_set, w64_nx (by omega)]
          rfl
        · right
          have hk8 : k = 8 := by omega
          subst hk8
          rw [if_neg (by simp), w64_eight (by omega), Int.toNat_natCast, Nat.zero_add, Nat.mul_one]
          refine bind_to (v := Sum.inl (natR (hv a), natR (hv b), nT .u64 (prodp 4294967296 (hv a) (hv b) 8 16 (i + 1)), ((i + 1 : Nat) : Int))) ?_ rfl
          rw [if_pos (by omega), if_pos (by simp; omega), if_pos (by simp; omega), nT_set, w64_nx (by omega)]
          rfl
    · right
      have hi8 : i = 8 := by omega
      subst hi8
      have hl : (nT .u64 (prodp 4294967296 (hv a) (hv b) 8 16 8)).length = 16 := by simp
      rw [if_neg (by simp)]
      refine bind_to ?_ rfl
      rw [if_pos ⟨by rw [hl]; exact Nat.le_refl _, by decide⟩, List.drop_zero, List.take_of_length_le (by rw [hl]; exact Nat.le_refl _), pures_nT, Option.bind_some, if_pos ⟨by simp, by simp⟩, pures_map_p, Option.bind_some, if_pos ⟨by simp, by decide⟩, if_pos (stab_numV _ _)]
end Go.Proofs.Ytffofdfikmpanaa.A
namespace Go.Proofs.Ytffofdfikmpanaa.A
set_option linter.unusedVariables false
set_option linter.unusedSimpArgs false
set_option maxRecDepth 10000
def fsum (D : List Nat) (k : Nat) : Nat := val 4294967296 (D.take k) + 38 * val 4294967296 ((D.drop 8).take k)
theorem fsum_succ {D : List Nat} (hD : D.length = 16) {k : Nat} (hk : k < 8) : fsum D (k + 1) = fsum D k + 4294967296 ^ k * (D.getD k 0 + 38 * D.getD (8 + k) 0) := by
  unfold fsum
  have hg : (D.drop 8).getD k 0 = D.getD (8 + k) 0 := by simp [List.getD]
  rw [take_val _ _ (by omega), take_val _ _ (by simp; omega), hg, Nat.mul_add, Nat.mul_add, show 38 * (4294967296 ^ k * D.getD (8 + k) 0) = 4294967296 ^ k * (38 * D.getD (8 + k) 0) by ac_rfl]
  omega
theorem fsum_step {D : List Nat} (hD : D.length = 16) {k : Nat} (hk : k < 8) : fsum D (k + 1) / 4294967296 ^ k = fsum D k / 4294967296 ^ k + (D.getD k 0 + 38 * D.getD (8 + k) 0) := by
  rw [fsum_succ hD hk, Nat.add_mul_div_left _ _ (Nat.pow_pos (by decide))]
theorem fsum_rest {D : List Nat} (hD : D.length = 16) : ∀ {j k : Nat}, k + j ≤ 8 → ∃ r, fsum D (k + j) = fsum D k + 4294967296 ^ k * r
  | 0, k, _ => ⟨0, by simp⟩
  | j + 1, k, h => by
    obtain ⟨r, hr⟩ := fsum_rest hD (j := j) (k := k) (by omega)
    refine ⟨r + 4294967296 ^ j * (D.getD (k + j) 0 + 38 * D.getD (8 + (k + j)) 0), ?_⟩
    rw [← Nat.add_assoc, fsum_succ hD (by omega), hr, Nat.pow_add, Nat.mul_assoc, Nat.add_assoc, ← Nat.mul_add]
theorem fsum_digit {D : List Nat} (hD : D.length = 16) {k : Nat} (hk : k < 8) : (fsum D (k + 1) / 4294967296 ^ k) % 4294967296 = fsum D 8 / 4294967296 ^ k % 4294967296 := by
  obtain ⟨r, hr⟩ := fsum_rest hD (j := 8 - (k + 1)) (k := k + 1) (by omega)
  rw [show k + 1 + (8 - (k + 1)) = 8 by omega] at hr
  rw [hr, Nat.pow_succ, Nat.mul_assoc, Nat.add_mul_div_left _ _ (Nat.pow_pos (by decide)), Nat.add_mul_mod_self_left]
theorem fsum_small {D : List Nat} (hD : ∀ d ∈ D, d < 4294967296) (k : Nat) (hk : k ≤ 8) : fsum D k / 4294967296 ^ k ≤ 38 := by
  have h1 : val 4294967296 (D.take k) < 4294967296 ^ k := Nat.lt_of_lt_of_le (val_lt fun d hd => hD d (List.mem_of_mem_take hd)) (Nat.pow_le_pow_right (by decide) (by simp; omega))
  have h2 : val 4294967296 ((D.drop 8).take k) < 4294967296 ^ k := Nat.lt_of_lt_of_le (val_lt fun d hd => hD d (List.mem_of_mem_drop (List.mem_of_mem_take hd))) (Nat.pow_le_pow_right (by decide) (by simp; omega))
  have h3 : fsum D k < 4294967296 ^ k * 39 := by unfold fsum; omega
  have := Nat.div_lt_of_lt_mul h3
  omega
def d8 (S : Nat) : List Nat := (List.range 8).map fun k => S / 4294967296 ^ k % 4294967296
@[simp] theorem d8_length (S : Nat) : (d8 S).length = 8 := by simp [d8]
theorem d8_getD (S : Nat) {k : Nat} (h : k < 8) : (d8 S).getD k 0 = S / 4294967296 ^ k % 4294967296 := by simp [d8, List.getD, h]
theorem d8_word (S : Nat) {i : Nat} (h : i < 4) : (d8 S).getD (2 * i) 0 + (d8 S).getD (2 * i + 1) 0 * 4294967296 = (elN S).getD i 0 := by
  rw [d8_getD S (by omega), d8_getD S (by omega), elN_getD S h, Nat.pow_succ, ← Nat.div_div_eq_div_mul, Nat.pow_mul, show (4294967296 : Nat) ^ 2 = 18446744073709551616 by decide]
  generalize S / 18446744073709551616 ^ i = x
  omega
theorem shl32 {v : Nat} (h : v < 4294967296) : wordShl .u64 (v : Int) 32 = ((v * 4294967296 : Nat) : Int) := by
  rw [show (32 : Int) = ((32 : Nat) : Int) from rfl, wordShl_u64 v 32 (by omega), Nat.mod_eq_of_lt (by omega)]
theorem w64_8two {k : Nat} (h : k < 4611686018427387904) : w64 (8 + (k : Int)) = ((8 + k : Nat) : Int) := by rw [show (8 : Int) + (k : Int) = ((8 + k : Nat) : Int) by omega]; exact w64_nat (by omega)
theorem w64_2x {k : Nat} (h : k < 1000000) : w64 (2 * (k : Int)) = ((2 * k : Nat) : Int) := by rw [show (2 : Int) * (k : Int) = ((2 * k : Nat) : Int) by omega]; exact w64_nat (by omega)
set_option maxHeartbeats 2000000 in
theorem r_mul_eq (a b : Nat) (ha : a < 18446744073709551616 ^ 4) (hb : b < 18446744073709551616 ^ 4) : F_affiantref11_Mul (el a, el b) = some (el (a * b % prm)) := by
  unfold F_affiantref11_Mul
  simp only [List.getD_cons_zero, List.getD_cons_succ]
  rw [el_row, el_row, rproduct_eq a b ha hb, Option.bind_some]
  have hlt := prodp_lt (n := 8) (m := 16) (W := 4294967296) (by decide) (hv_lt a) (hv_lt b) 8
  have hv8 := prodp_val (W := 4294967296) (by decide) (hv a) (hv b) 8 16 (by simp) (i := 8) (by simp) (by omega)
  rw [List.take_of_length_le (by simp), hv_val ha, hv_val hb] at hv8
  have hpl : (prodp 4294967296 (hv a) (hv b) 8 16 8).length = 16 := by simp
  generalize prodp 4294967296 (hv a) (hv b) 8 16 8 = D at hlt hv8 hpl
  rw [if_pos ⟨by rw [numV_length', hpl], by simp⟩]
  have hS8 := fsum_small hlt 8 (by omega)
  have hmod : a * b % prm = fsum D 8 % prm := by
    rw [← hv8]
    conv => lhs; rw [← List.take_append_drop 8 D]
    rw [val_append, List.length_take, hpl, show min 8 16 = 8 from rfl, show (4294967296 : Nat) ^ 8 = 18446744073709551616 ^ 4 by decide, fold_mod]
    unfold fsum
    rw [List.take_of_length_le (l := D.drop 8) (i := 8) (by simp; omega)]
  have hW : 0 < (18446744073709551616 : Nat) ^ 4 := by decide
  refine (congrArg (loopO _) ?_).trans (loopO_run (ι := Nat) (fun k => (nT .u64 D, natR ((d8 (fsum D 8)).take k ++ (List.replicate 8 0).drop k), ((fsum D k / 4294967296 ^ k : Nat) : Int), (k : Int))) (fun _ => el (a * b % prm)) (fun k => k ≤ 8) (fun k => 8 - k) ?_ 0 (by omega))
  · have h0 : fsum D 0 / 4294967296 ^ 0 = 0 := by simp [fsum, val]
    rw [h0]; rfl
  · intro k hk
    dsimp only
    have hln : (natR ((d8 (fsum D 8)).take k ++ (List.replicate 8 0).drop k)).length = 8 := by simp; omega
    by_cases hkt : k < 8
    · left
      refine ⟨k + 1, ?_, by omega, by omega, rfl⟩
      have h1 : D.getD k 0 < 4294967296 := getD_lt2 (by decide) hlt k
      have h2 : D.getD (8 + k) 0 < 4294967296 := getD_lt2 (by decide) hlt _
      have hs := fsum_small hlt k (by omega)
      have hst := fsum_step hpl hkt
      have hdg := fsum_digit hpl hkt
      have hnx : fsum D (k + 1) / 4294967296 ^ (k + 1) = fsum D (k + 1) / 4294967296 ^ k / 4294967296 := by rw [Nat.div_div_eq_div_mul, Nat.pow_succ]
      rw [← d8_getD (fsum D 8) hkt] at hdg
      have hsum : wu64 (wu64 (((fsum D k / 4294967296 ^ k : Nat) : Int) + ((D.getD k 0 : Nat) : Int)) + wu64 (38 * ((D.getD (8 + k) 0 : Nat) : Int))) = ((fsum D (k + 1) / 4294967296 ^ k : Nat) : Int) := by
        rw [show (38 : Int) * ((D.getD (8 + k) 0 : Nat) : Int) = ((38 * D.getD (8 + k) 0 : Nat) : Int) by omega, wu64_nat, Nat.mod_eq_of_lt (by omega), wu64_two, Nat.mod_eq_of_lt (by omega), wu64_two, Nat.mod_eq_of_lt (by omega), hst]
        congr 1; omega
      have hlt64 : fsum D (k + 1) / 4294967296 ^ k < 18446744073709551616 := by omega
      rw [if_pos (by simp; omega), if_pos (by omega), Int.toNat_natCast, Nat.zero_add, Nat.mul_one, if_pos (by simp; omega), nT_get (by omega), Option.bind_some, T.val?, Option.bind_some, int?_int, Option.bind_some,
        w64_8two (by omega), if_pos (by omega), Int.toNat_natCast, Nat.zero_add, Nat.mul_one, if_pos (by simp; omega), nT_get (by omega), Option.bind_some, T.val?, Option.bind_some, int?_int, Option.bind_some, hsum,
        if_pos (by omega), if_pos (by omega), if_pos (by omega), and32 hlt64, shr32, ← hnx, hdg]
      refine bind_to (bind_to (bind_to (bind_to (setT8 hln _ hkt) rfl) rfl) rfl) ?_
      dsimp only
      rw [natR_set, set_cut (l := d8 (fsum D 8)) (m := List.replicate 8 0) (k := k) (by simpa using hkt) (by simp), w64_nx (by omega)]
    · right
      have hk8 : k = 8 := by omega
      subst hk8
      generalize hS : fsum D 8 = S at *
      rw [if_neg (by simp), List.take_of_length_le (by simp), show (List.replicate 8 (0 : Nat)).drop 8 = [] from rfl, List.append_nil]
      have r8 : fitI (natR (d8 S)) 0 8 = natR (d8 S) := row8 (by simp)
      rw [show (4294967296 : Nat) ^ 8 = 18446744073709551616 ^ 4 by decide] at hS8 ⊢
      refine bind_to (v := el (a * b % prm)) ?_ rfl
      refine (congrArg (loopO _) ?_).trans (loopO_run (ι := Nat) (fun k => (natR (d8 S), natR ((elN S).take k ++ [0, 0, 0, 0].drop k), (k : Int))) (fun _ => el (a * b % prm)) (fun k => k ≤ 4) (fun k => 4 - k) ?_ 0 (by omega))
      · rw [r8]; rfl
      · intro k hk
        dsimp only
        have hln : (natR ((elN S).take k ++ [0, 0, 0, 0].drop k)).length = 4 := by simp [elN]; omega
        by_cases hkt : k < 4
        · left
          refine ⟨k + 1, ?_, by omega, by omega, rfl⟩
          have hw := d8_word S hkt
          have h1 : (d8 S).getD (2 * k) 0 < 4294967296 := by rw [d8_getD S (by omega)]; exact Nat.mod_lt _ (by decide)
          have h2 : (d8 S).getD (2 * k + 1) 0 < 4294967296 := by rw [d8_getD S (by omega)]; exact Nat.mod_lt _ (by decide)
          rw [if_pos (by simp; omega), w64_2x (by omega), if_pos (by omega), Int.toNat_natCast, Nat.zero_add, Nat.mul_one, if_pos (by omega), getT8 _ (by omega), Option.bind_some, T.val?, Option.bind_some, int?_int, Option.bind_some, natR_getD (d8 S) (2 * k),
            w64_nx (by omega), if_pos (by omega), Int.toNat_natCast, Nat.zero_add, Nat.mul_one, if_pos (by omega), getT8 _ (by omega), Option.bind_some, T.val?, Option.bind_some, int?_int, Option.bind_some, natR_getD (d8 S) (2 * k + 1),
            if_pos (by omega), Int.toNat_natCast, Nat.zero_add, Nat.mul_one, if_pos (by omega), if_pos (by omega), shl32 h2, wu64_two, Nat.mod_eq_of_lt (by omega), hw]
          refine bind_to (bind_to (bind_to (bind_to (setT4 hln _ hkt) rfl) rfl) rfl) ?_
          dsimp only
          rw [r8, natR_set, set_cut (l := elN S) (m := [0, 0, 0, 0]) (k := k) hkt rfl, w64_nx (by omega)]
        · right
          have hk4 : k = 4 := by omega
          subst hk4
          rw [if_neg (by simp), List.take_of_length_le (l := elN S) (i := 4) (Nat.le_refl 4), show ([0, 0, 0, 0] : List Nat).drop 4 = [] from rfl, List.append_nil, ← el_natR, el_row, el_natR S, elN_mod, ← el_natR]
          have hl := Nat.mod_lt S hW
          have hda := Nat.div_add_mod S (18446744073709551616 ^ 4)
          generalize S % 18446744073709551616 ^ 4 = low at hl hda ⊢
          generalize S / 18446744073709551616 ^ 4 = c at hS8 hda ⊢
          have hk1 : [wu64 (38 * (c : Int)), 0, 0, 0] = el (38 * c) := by
            rw [show (38 : Int) * (c : Int) = ((38 * c : Nat) : Int) by omega, wu64_nat, Nat.mod_eq_of_lt (by omega), el_small (by omega)]
          have hm2 : a * b % prm = (low + 38 * c) % prm := by rw [hmod, ← hda, Nat.add_comm, fold_mod]
          refine bind_to (v := el (a * b % prm)) ?_ rfl
          rw [hk1, more_eq _ _ hl (by rw [pow4]; omega), Option.bind_some]
          simp only
          by_cases hov : 18446744073709551616 ^ 4 ≤ low + 38 * c
          · refine bind_to (v := .inl (el (low + 38 * c - 18446744073709551616 ^ 4 + 38))) ?_ ?_
            · rw [if_pos (by simpa using hov)]
              have h38 : ([38, 0, 0, 0] : List Int) = el 38 := by decide +kernel
              have hel : el (low + 38 * c) = el (low + 38 * c - 18446744073709551616 ^ 4) := by
                rw [elP, elP (low + 38 * c - 18446744073709551616 ^ 4)]
                have := fun i hi => top_mod (low + 38 * c - 18446744073709551616 ^ 4) i hi
                rw [Nat.sub_add_cancel hov] at this
                rw [this 0 (by decide), this 1 (by decide), this 2 (by decide), this 3 (by decide)]
              rw [el_row, h38, hel, more_eq _ _ (by rw [pow4] at *; omega) (by decide), Option.bind_some]
              simp only
              rw [el_row]
            · dsimp only
              rw [el_row, rreduce_eq _ (by rw [pow4] at *; omega), Option.bind_some, el_row, hm2]
              have : (low + 38 * c) % prm = (low + 38 * c - 18446744073709551616 ^ 4 + 38) % prm := by
                have h := fold_mod (low + 38 * c - 18446744073709551616 ^ 4) 1
                rw [Nat.mul_one, Nat.sub_add_cancel hov] at h
                exact h
              rw [this]
          · refine bind_to (v := .inl (el (low + 38 * c))) ?_ ?_
            · rw [if_neg (by simpa using hov), el_row]
            · dsimp only
              rw [el_row, rreduce_eq _ (by omega), Option.bind_some, el_row, hm2]
end Go.Proofs.Ytffofdfikmpanaa.A
namespace Go.Proofs.Ytffofdfikmpanaa.A
set_option linter.unusedVariables false
set_option linter.unusedSimpArgs false
set_option maxRecDepth 10000
def pwm (a n : Nat) : Nat := a ^ n % prm
theorem pwm_lt (a n : Nat) : pwm a n < prm := Nat.mod_lt _ (by decide)
theorem prm_lt : prm < 18446744073709551616 ^ 4 := by decide
def pws (a n : Nat) : Nat → Nat × Nat
  | 0 => (a, 1)
  | t + 1 => ((pws a n t).1 * (pws a n t).1 % prm, if n / 2 ^ t % 2 = 1 then (pws a n t).2 * (pws a n t).1 % prm else (pws a n t).2)
theorem pws_lt {a n : Nat} (ha : a < 18446744073709551616 ^ 4) : ∀ t, (pws a n t).1 < 18446744073709551616 ^ 4 ∧ (pws a n t).2 < prm
  | 0 => ⟨ha, show 1 < prm by decide⟩
  | t + 1 => by
    obtain ⟨h1, h2⟩ := pws_lt ha t (n := n)
    refine ⟨mod_prm_lt _, ?_⟩
    unfold pws
    dsimp only
    split
    · exact Nat.mod_lt _ (by decide)
    · exact h2
theorem mod_two_pow (n t : Nat) : n % 2 ^ (t + 1) = n % 2 ^ t + 2 ^ t * (n / 2 ^ t % 2) := Nat.mod_pow_succ
theorem pws_eq (a n : Nat) : ∀ t, (pws a n t).1 % prm = a ^ (2 ^ t) % prm ∧ (pws a n t).2 % prm = a ^ (n % 2 ^ t) % prm
  | 0 => ⟨by simp [pws], by simp [pws, Nat.mod_one]⟩
  | t + 1 => by
    obtain ⟨h1, h2⟩ := pws_eq a n t
    refine ⟨?_, ?_⟩
    · show (pws a n t).1 * (pws a n t).1 % prm % prm = _
      rw [Nat.mod_mod, Nat.mul_mod, h1, ← Nat.mul_mod, ← Nat.pow_add, Nat.pow_succ, Nat.mul_two]
    · show (if n / 2 ^ t % 2 = 1 then (pws a n t).2 * (pws a n t).1 % prm else (pws a n t).2) % prm = _
      rw [mod_two_pow]
      split
      · rename_i hb
        rw [hb, Nat.mul_one, Nat.mod_mod, Nat.mul_mod, h1, h2, ← Nat.mul_mod, ← Nat.pow_add]
      · rename_i hb
        rw [show n / 2 ^ t % 2 = 0 by omega, Nat.mul_zero, Nat.add_zero, h2]
theorem pws_all {a n : Nat} (ha : a < 18446744073709551616 ^ 4) (hn : n < 18446744073709551616 ^ 4) : (pws a n 256).2 = pwm a n := by
  have h := (pws_eq a n 256).2
  rw [Nat.mod_eq_of_lt (pws_lt ha 256).2, Nat.mod_eq_of_lt (show n < 2 ^ 256 from Nat.lt_of_lt_of_le hn (by decide))] at h
  exact h
def rpw (a n : Nat) : Nat → Nat
  | 0 => 1
  | k + 1 => if n / 2 ^ (255 - k) % 2 = 1 then rpw a n k * rpw a n k % prm * a % prm else rpw a n k * rpw a n k % prm
theorem rpw_lt (a n : Nat) : ∀ k, rpw a n k < prm
  | 0 => show 1 < prm by decide
  | k + 1 => by unfold rpw; split <;> exact Nat.mod_lt _ (by decide)
theorem rpw_eq {a n : Nat} (hn : n < 2 ^ 256) : ∀ {k : Nat}, k ≤ 256 → rpw a n k % prm = a ^ (n / 2 ^ (256 - k)) % prm
  | 0, _ => by rw [Nat.sub_zero, Nat.div_eq_of_lt hn]; rfl
  | k + 1, hk => by
    have ih := rpw_eq hn (k := k) (by omega) (a := a)
    have e : n / 2 ^ (255 - k) = n / 2 ^ (256 - k) * 2 + n / 2 ^ (255 - k) % 2 := by
      rw [show 256 - k = 255 - k + 1 by omega, Nat.pow_succ, ← Nat.div_div_eq_div_mul]; omega
    have hsq : rpw a n k * rpw a n k % prm = a ^ (n / 2 ^ (256 - k) * 2) % prm := by
      rw [Nat.mul_mod, ih, ← Nat.mul_mod, ← Nat.pow_add, Nat.mul_two]
    rw [show 256 - (k + 1) = 255 - k by omega, e]
    unfold rpw
    split
    · rename_i hb
      rw [hb, Nat.mod_mod, Nat.mul_mod, hsq, Nat.mod_mod, ← Nat.mul_mod, Nat.pow_succ]
    · rename_i hb
      rw [show n / 2 ^ (255 - k) % 2 = 0 by omega, Nat.add_zero, Nat.mod_mod, hsq]
theorem rpw_all {a n : Nat} (hn : n < 18446744073709551616 ^ 4) : rpw a n 256 = pwm a n := by
  have h := rpw_eq (a := a) (show n < 2 ^ 256 from Nat.lt_of_lt_of_le hn (by decide)) (k := 256) (Nat.le_refl _)
  rw [Nat.mod_eq_of_lt (rpw_lt _ _ _), Nat.sub_self, Nat.pow_zero, Nat.div_one] at h
  exact h
theorem bit_of (n : Nat) {i j : Nat} (hj : j < 64) : n / 18446744073709551616 ^ i % 18446744073709551616 / 2 ^ j % 2 = n / 2 ^ (64 * i + j) % 2 := by
  rw [Nat.pow_add, Nat.pow_mul, show (2 : Nat) ^ 64 = 18446744073709551616 by decide, ← Nat.div_div_eq_div_mul]
  generalize n / 18446744073709551616 ^ i = x
  have e : (18446744073709551616 : Nat) = 2 ^ j * 2 ^ (64 - j) := by rw [← Nat.pow_add, show j + (64 - j) = 64 by omega]
  rw [e, Nat.mod_mul_right_div_self, show (2 : Nat) ^ (64 - j) = 2 * 2 ^ (63 - j) by rw [← Nat.pow_succ']; congr 1; omega, Nat.mod_mul_right_mod]
theorem and_one {v : Nat} (hv : v < 18446744073709551616) : wordAnd .u64 (v : Int) 1 = ((v % 2 : Nat) : Int) := by
  rw [show (1 : Int) = ((1 : Nat) : Int) from rfl, wordAnd_u64 hv (by decide), Nat.and_one_is_mod]
theorem from_one : F_field_From 1 = some (el 1) := by
  have : el 1 = [1, 0, 0, 0] := by decide +kernel
  rw [this]; rfl
set_option maxHeartbeats 2000000 in
theorem f_pow_eq (a n : Nat) (ha : a < 18446744073709551616 ^ 4) (hn : n < 18446744073709551616 ^ 4) : F_field_Pow (el a, el n) = some (el (pwm a n)) := by
  unfold F_field_Pow
  simp only [List.getD_cons_zero, List.getD_cons_succ]
  rw [from_one, Option.bind_some, el_row]
  have hp := fun t => pws_lt (n := n) ha t
  have hp2 : ∀ t, (pws a n t).2 < 18446744073709551616 ^ 4 := fun t => Nat.lt_trans (hp t).2 prm_lt
  refine (congrArg (loopO _) ?_).trans (loopO_run (ι := Nat) (fun i => (el (pws a n (64 * i)).1, el (pws a n (64 * i)).2, ((natR (elN n)).getD 0 0, (natR (elN n)).getD 1 0, (natR (elN n)).getD 2 0, (natR (elN n)).getD 3 0), (i : Int))) (fun _ => el (pwm a n)) (fun i => i ≤ 4) (fun i => 4 - i) ?_ 0 (by omega))
  · rfl
  · intro i hi
    dsimp only
    by_cases hlt : i < 4
    · left
      refine ⟨i + 1, ?_, by omega, by omega, rfl⟩
      rw [if_pos (by simp; omega), if_pos (by omega), Int.toNat_natCast, getI4 _ hlt, Option.bind_some, natR_getD (elN n) i, elN_getD n hlt, el_row, el_row]
      refine (congrArg (loopO _) ?_).trans (loopO_run (ι := Nat) (fun j => (el (pws a n (64 * i + j)).1, el (pws a n (64 * i + j)).2, ((n / 18446744073709551616 ^ i % 18446744073709551616 / 2 ^ j : Nat) : Int), (j : Int)))
        (fun _ => Sum.inl (el (pws a n (64 * (i + 1))).1, el (pws a n (64 * (i + 1))).2, ((natR (elN n)).getD 0 0, (natR (elN n)).getD 1 0, (natR (elN n)).getD 2 0, (natR (elN n)).getD 3 0), ((i + 1 : Nat) : Int))) (fun j => j ≤ 64) (fun j => 64 - j) ?_ 0 (by omega))
      · rw [Nat.pow_zero, Nat.div_one]; rfl
      · intro j hj
        dsimp only
        by_cases hjt : j < 64
        · left
          refine ⟨j + 1, ?_, by omega, by omega, rfl⟩
          have hw : n / 18446744073709551616 ^ i % 18446744073709551616 / 2 ^ j < 18446744073709551616 := Nat.lt_of_le_of_lt (Nat.div_le_self _ _) (word_lt n i)
          have hb := bit_of n (i := i) hjt
          have hsh : wordShr .u64 ((n / 18446744073709551616 ^ i % 18446744073709551616 / 2 ^ j : Nat) : Int) 1 = ((n / 18446744073709551616 ^ i % 18446744073709551616 / 2 ^ (j + 1) : Nat) : Int) := by
            rw [show (1 : Int) = ((1 : Nat) : Int) from rfl, wordShr_u64 _ 1 (by omega), Nat.div_div_eq_div_mul, Nat.pow_one, ← Nat.pow_succ]
          rw [if_pos (by simp; omega), and_one hw, hb, el_row, el_row, hsh, w64_nx (by omega)]
          have hnx : pws a n (64 * i + (j + 1)) = ((pws a n (64 * i + j)).1 * (pws a n (64 * i + j)).1 % prm, if n / 2 ^ (64 * i + j) % 2 = 1 then (pws a n (64 * i + j)).2 * (pws a n (64 * i + j)).1 % prm else (pws a n (64 * i + j)).2) := rfl
          rw [hnx]
          have h1 := (hp (64 * i + j)).1
          have h2 := hp2 (64 * i + j)
          generalize (pws a n (64 * i + j)).1 = x at *
          generalize (pws a n (64 * i + j)).2 = y at *
          by_cases hbit : n / 2 ^ (64 * i + j) % 2 = 1
          · refine bind_to (v := Sum.inl (el x, el (y * x % prm))) ?_ ?_
            · rw [hbit, if_pos (by decide), f_mul_eq _ _ h2 h1, Option.bind_some, el_row]
            · dsimp only
              rw [el_row, f_mul_eq _ _ h1 h1, Option.bind_some, el_row, el_row, if_pos hbit]
          · refine bind_to (v := Sum.inl (el x, el y)) ?_ ?_
            · rw [show n / 2 ^ (64 * i + j) % 2 = 0 by omega, if_neg (by decide)]
            · dsimp only
              rw [el_row, f_mul_eq _ _ h1 h1, Option.bind_some, el_row, el_row, if_neg hbit]
        · right
          have hj4 : j = 64 := by omega
          subst hj4
          rw [if_neg (by simp), el_row, el_row, w64_nx (by omega), Nat.mul_add, Nat.mul_one]
    · right
      have hi4 : i = 4 := by omega
      subst hi4
      rw [if_neg (by simp), el_row, pws_all ha hn]
end Go.Proofs.Ytffofdfikmpanaa.A
namespace Go.Proofs.Ytffofdfikmpanaa.A
set_option linter.unusedVariables false
set_option linter.unusedSimpArgs false
set_option maxRecDepth 10000
set_option maxHeartbeats 2000000 in
theorem r_pow_eq (a n : Nat) (ha : a < 18446744073709551616 ^ 4) (hn : n < 18446744073709551616 ^ 4) : F_affiantref11_Pow (el a, el n) = some (el (pwm a n)) := by
  unfold F_affiantref11_Pow
  simp only [List.getD_cons_zero, List.getD_cons_succ]
  rw [el_row, el_row, el_natR n]
  have hp : ∀ k, rpw a n k < 18446744073709551616 ^ 4 := fun k => Nat.lt_trans (rpw_lt a n k) prm_lt
  refine (congrArg (loopO _) ?_).trans (loopO_run (ι := Nat) (fun k => (el a, natR (elN n), el (rpw a n k), (255 : Int) - (k : Int))) (fun _ => el (pwm a n)) (fun k => k ≤ 256) (fun k => 256 - k) ?_ 0 (by omega))
  · have : el (rpw a n 0) = [1, 0, 0, 0] := by show el 1 = _; decide +kernel
    rw [this]; rfl
  · intro k hk
    dsimp only
    by_cases hkt : k < 256
    · left
      refine ⟨k + 1, ?_, by omega, by omega, rfl⟩
      have hi : (255 : Int) - (k : Int) = ((255 - k : Nat) : Int) := by omega
      have e1 : w64 (Int.tdiv ((255 - k : Nat) : Int) 64) = (((255 - k) / 64 : Nat) : Int) := by rw [show Int.tdiv ((255 - k : Nat) : Int) 64 = (((255 - k) / 64 : Nat) : Int) from rfl, w64_nat (by omega)]
      have e2 : wu64 (Int.tmod ((255 - k : Nat) : Int) 64) = (((255 - k) % 64 : Nat) : Int) := by
        rw [show Int.tmod ((255 - k : Nat) : Int) 64 = (((255 - k) % 64 : Nat) : Int) from rfl, wu64_nat, Nat.mod_eq_of_lt (by omega)]
      have e3 : w64 (((255 - k : Nat) : Int) - 1) = (255 : Int) - ((k + 1 : Nat) : Int) := by
        rcases (by omega : k < 255 ∨ k = 255) with h | h
        · rw [show ((255 - k : Nat) : Int) - 1 = ((254 - k : Nat) : Int) by omega, w64_nat (by omega)]; omega
        · subst h; decide +kernel
      have hx := word_lt n ((255 - k) / 64)
      have hb := bit_of n (i := (255 - k) / 64) (j := (255 - k) % 64) (Nat.mod_lt _ (by decide))
      rw [show 64 * ((255 - k) / 64) + (255 - k) % 64 = 255 - k by omega] at hb
      have hs : n / 18446744073709551616 ^ ((255 - k) / 64) % 18446744073709551616 / 2 ^ ((255 - k) % 64) < 18446744073709551616 := Nat.lt_of_le_of_lt (Nat.div_le_self _ _) hx
      rw [hi, if_pos (by simp only [decide_eq_true_eq]; omega), el_row, f_any, Option.bind_some, e1, if_pos (by omega), Int.toNat_natCast, Nat.zero_add, Nat.mul_one, if_pos (by omega), getT4 _ (by omega), Option.bind_some, T.val?, Option.bind_some, int?_int, Option.bind_some,
        natR_getD (elN n) ((255 - k) / 64), elN_getD n (by omega), e2, if_neg (by omega), wordShr_u64 _ _ (by omega), and_one hs, hb, el_row, el_row, e3, row4 rfl]
      have hnx : rpw a n (k + 1) = if n / 2 ^ (255 - k) % 2 = 1 then rpw a n k * rpw a n k % prm * a % prm else rpw a n k * rpw a n k % prm := rfl
      rw [hnx]
      by_cases hbit : n / 2 ^ (255 - k) % 2 = 1
      · refine bind_to (v := Sum.inl (el a, el (rpw a n k * rpw a n k % prm * a % prm))) ?_ ?_
        · rw [hbit, if_pos (by decide), r_mul_eq _ _ (mod_prm_lt _) ha, Option.bind_some, el_row]
        · dsimp only
          rw [el_row, el_row, if_pos hbit]
      · refine bind_to (v := Sum.inl (el a, el (rpw a n k * rpw a n k % prm))) ?_ ?_
        · rw [show n / 2 ^ (255 - k) % 2 = 0 by omega, if_neg (by decide)]
        · dsimp only
          rw [el_row, el_row, if_neg hbit]
    · right
      have hk8 : k = 256 := by omega
      subst hk8
      rw [if_neg (by simp), el_row, rpw_all hn]
where
  f_any {k : Nat} : F_affiantref11_Mul (el (rpw a n k), el (rpw a n k)) = some (el (rpw a n k * rpw a n k % prm)) := r_mul_eq _ _ (Nat.lt_trans (rpw_lt a n k) prm_lt) (Nat.lt_trans (rpw_lt a n k) prm_lt)
theorem f_inv_eq (a : Nat) (ha : a < 18446744073709551616 ^ 4) : F_field_Inv (el a) = some (el (pwm a (prm - 2))) := by
  unfold F_field_Inv
  simp only [List.getD_cons_zero, List.getD_cons_succ]
  have h2 : F_field_From 2 = some (el 2) := by
    have : el 2 = [2, 0, 0, 0] := by decide +kernel
    rw [this]; rfl
  have hd : dif prm 2 = prm - 2 := by unfold dif; rw [if_neg (by decide)]
  rw [prime_eq, Option.bind_some, h2, Option.bind_some, el_row, el_row, minus_eq _ _ prm_lt (by decide), Option.bind_some]
  simp only
  rw [el_row, el_row, hd, f_pow_eq a (prm - 2) ha (by decide), Option.bind_some, el_row]
theorem r_inv_eq (a : Nat) (ha : a < 18446744073709551616 ^ 4) : F_affiantref11_Inv (el a) = some (el (pwm a (prm - 2))) := by
  unfold F_affiantref11_Inv
  simp only [List.getD_cons_zero, List.getD_cons_succ]
  have h2 : ([2, 0, 0, 0] : List Int) = el 2 := by decide +kernel
  have hd : dif prm 2 = prm - 2 := by unfold dif; rw [if_neg (by decide)]
  rw [rprime_eq, Option.bind_some, h2, el_row, less_eq _ _ prm_lt (by decide), Option.bind_some]
  simp only
  rw [el_row, el_row, hd, r_pow_eq a (prm - 2) ha (by decide), Option.bind_some, el_row]
theorem el_inj {x y : Nat} (hx : x < 18446744073709551616 ^ 4) (hy : y < 18446744073709551616 ^ 4) : (el x == el y) = decide (x = y) := by
  rw [Bool.eq_iff_iff, beq_iff_eq, decide_eq_true_eq]
  refine ⟨fun h => ?_, fun h => by rw [h]⟩
  have : elN x = elN y := by
    simp only [el, List.cons.injEq, and_true, Int.ofNat_inj] at h
    simp only [elN, List.cons.injEq, and_true]
    exact h
  rw [← val_elN hx, ← val_elN hy, this]
def e8 : Nat := 7237005577332262213973186563042994240829374041602535252466099000494570602494
def q4 : Nat := 14474011154664524427946373126085988481658748083205070504932198000989141204987
def negm (r : Nat) : Nat := (0 + (prm - r % prm)) % prm
def rt (a : Nat) : Nat := if pwm a e8 * pwm a e8 % prm = a % prm then pwm a e8 else pwm a e8 * pwm 2 q4 % prm
def rootm (a : Nat) : Option Nat := if rt a * rt a % prm = a % prm then some (if rt a % 2 = 1 then negm (rt a) else rt a) else none
def rootR (o : Option Nat) : List Int × Bool := match o with
  | some x => (el x, true)
  | none => ([0, 0, 0, 0], false)
theorem rt_lt (a : Nat) : rt a < 18446744073709551616 ^ 4 := by
  unfold rt; split
  · exact Nat.lt_trans (pwm_lt _ _) prm_lt
  · exact mod_prm_lt _
theorem el_e8 : ([18446744073709551614, 18446744073709551615, 18446744073709551615, 1152921504606846975] : List Int) = el e8 := by decide +kernel
theorem el_q4 : ([18446744073709551611, 18446744073709551615, 18446744073709551615, 2305843009213693951] : List Int) = el q4 := by decide +kernel
theorem el_2 : ([2, 0, 0, 0] : List Int) = el 2 := by decide +kernel
theorem el_0 : ([0, 0, 0, 0] : List Int) = el 0 := by decide +kernel
theorem from_two : F_field_From 2 = some (el 2) := by rw [← el_2]; rfl
theorem isSquare_eq (r a : Nat) (hr : r < 18446744073709551616 ^ 4) (ha : a < 18446744073709551616 ^ 4) : F_field_isSquareOf (el r, el a) = some (decide (r * r % prm = a % prm)) := by
  unfold F_field_isSquareOf
  simp only [List.getD_cons_zero, List.getD_cons_succ]
  rw [el_row, el_row, f_mul_eq r r hr hr, Option.bind_some, reduce_eq a ha, Option.bind_some, el_row, el_row, el_inj (mod_prm_lt _) (mod_prm_lt _)]
theorem el_low (x : Nat) : List.getD (el x) 0 0 = ((x % 18446744073709551616 : Nat) : Int) := rfl
theorem odd_and (x : Nat) : wordAnd .u64 (List.getD (el x) 0 0) 1 = ((x % 2 : Nat) : Int) := by
  rw [el_low, and_one (Nat.mod_lt _ (by decide))]; congr 1; omega
end Go.Proofs.Ytffofdfikmpanaa.A
namespace Go.Proofs.Ytffofdfikmpanaa.A
set_option linter.unusedVariables false
set_option linter.unusedSimpArgs false
set_option maxRecDepth 10000
theorem pwm_lt4 (a n : Nat) : pwm a n < 18446744073709551616 ^ 4 := Nat.lt_trans (pwm_lt a n) prm_lt
theorem e8_lt : e8 < 18446744073709551616 ^ 4 := by decide
theorem q4_lt : q4 < 18446744073709551616 ^ 4 := by decide
theorem f_root_eq (a : Nat) (ha : a < 18446744073709551616 ^ 4) : F_field_Root (el a) = some (rootR (rootm a)) := by
  unfold F_field_Root
  simp only [List.getD_cons_zero, List.getD_cons_succ]
  rw [el_row, el_e8, el_q4, f_pow_eq a e8 ha e8_lt, Option.bind_some, el_row, isSquare_eq _ _ (pwm_lt4 _ _) ha, Option.bind_some]
  refine bind_to (v := Sum.inl (el q4, el (rt a))) ?_ ?_
  · unfold rt
    by_cases h : pwm a e8 * pwm a e8 % prm = a % prm
    · rw [if_neg (by simpa using h), if_pos h]
    · rw [if_pos (by simpa using h), if_neg h, from_two, Option.bind_some, el_row, f_pow_eq 2 q4 (by decide) q4_lt, Option.bind_some, el_row, f_mul_eq _ _ (pwm_lt4 _ _) (pwm_lt4 _ _), Option.bind_some, el_row]
  · dsimp only
    rw [el_row, isSquare_eq _ _ (rt_lt a) ha, Option.bind_some]
    unfold rootm
    by_cases h : rt a * rt a % prm = a % prm
    · rw [if_neg (by simpa using h), if_pos h, odd_and]
      by_cases ho : rt a % 2 = 1
      · refine bind_to (v := Sum.inl (el (negm (rt a)))) ?_ ?_
        · rw [if_pos (by simp [ho]), el_0, f_sub_eq 0 _ (by decide) (rt_lt a), Option.bind_some, el_row]; rfl
        · dsimp only
          rw [el_row, if_pos ho]; rfl
      · refine bind_to (v := Sum.inl (el (rt a))) ?_ ?_
        · rw [if_neg (by rw [show rt a % 2 = 0 by omega]; decide)]
        · dsimp only
          rw [el_row, if_neg ho]; rfl
    · rw [if_pos (by simpa using h), if_neg h]; rfl
theorem r_root_eq (a : Nat) (ha : a < 18446744073709551616 ^ 4) : F_affiantref11_Root (el a) = some (rootR (rootm a)) := by
  unfold F_affiantref11_Root
  simp only [List.getD_cons_zero, List.getD_cons_succ]
  rw [el_row, el_e8, el_q4, el_2, r_pow_eq a e8 ha e8_lt, Option.bind_some, el_row, r_mul_eq _ _ (pwm_lt4 _ _) (pwm_lt4 _ _), Option.bind_some, rreduce_eq a ha, Option.bind_some, el_row, el_row, el_inj (mod_prm_lt _) (mod_prm_lt _)]
  refine bind_to (v := Sum.inl (el (rt a))) ?_ ?_
  · unfold rt
    by_cases h : pwm a e8 * pwm a e8 % prm = a % prm
    · rw [if_neg (by simpa using h), if_pos h]
    · rw [if_pos (by simpa using h), if_neg h, r_pow_eq 2 q4 (by decide) q4_lt, Option.bind_some, el_row, r_mul_eq _ _ (pwm_lt4 _ _) (pwm_lt4 _ _), Option.bind_some, el_row]
  · dsimp only
    rw [el_row, r_mul_eq _ _ (rt_lt a) (rt_lt a), Option.bind_some, Option.bind_some, el_row, el_row, el_inj (mod_prm_lt _) (mod_prm_lt _)]
    unfold rootm
    by_cases h : rt a * rt a % prm = a % prm
    · rw [if_neg (by simpa using h), if_pos h, el_low, show Int.tmod ((rt a % 18446744073709551616 : Nat) : Int) 2 = ((rt a % 18446744073709551616 % 2 : Nat) : Int) from rfl]
      by_cases ho : rt a % 2 = 1
      · refine bind_to (v := Sum.inl (el (negm (rt a)))) ?_ ?_
        · rw [if_pos (by simp only [beq_iff_eq]; omega), el_0, r_sub_eq 0 _ (by decide) (rt_lt a), Option.bind_some, el_row]; rfl
        · dsimp only
          rw [el_row, if_pos ho]; rfl
      · refine bind_to (v := Sum.inl (el (rt a))) ?_ ?_
        · rw [if_neg (by simp only [beq_iff_eq]; omega)]
        · dsimp only
          rw [el_row, if_neg ho]; rfl
    · rw [if_pos (by simpa using h), if_neg h]; rfl
end Go.Proofs.Ytffofdfikmpanaa.A
namespace Go.Proofs.Ytffofdfikmpanaa.A
set_option linter.unusedVariables false
set_option linter.unusedSimpArgs false
set_option maxRecDepth 10000
def lev (b : List UInt8) : Nat := val 256 (b.map UInt8.toNat)
theorem lev_lt (b : List UInt8) : lev b < 256 ^ b.length := by
  have := val_lt (B := 256) (l := b.map UInt8.toNat) (fun d hd => by obtain ⟨x, _, rfl⟩ := List.mem_map.1 hd; exact x.toNat_lt)
  rwa [List.length_map] at this
theorem lev_take {b : List UInt8} {i : Nat} (h : i < b.length) : lev (b.take (i + 1)) = lev (b.take i) + 256 ^ i * (b.getD i 0).toNat := by
  unfold lev
  rw [List.map_take, take_val 256 _ (by simpa using h), List.map_take]
  congr 2
  simp [List.getD, h]
theorem word_add {y x i : Nat} (hy : y < 256 ^ i) (hx : x < 256) (hi : i < 32) : elN (y + 256 ^ i * x) = (elN y).set (i / 8) (y / 18446744073709551616 ^ (i / 8) % 18446744073709551616 + x * 2 ^ (8 * (i % 8))) ∧
    y / 18446744073709551616 ^ (i / 8) % 18446744073709551616 < 2 ^ (8 * (i % 8)) := by
  have hW : ∀ k, (18446744073709551616 : Nat) ^ k = 256 ^ (8 * k) := fun k => by rw [Nat.pow_mul]
  have hr : (2 : Nat) ^ (8 * (i % 8)) = 256 ^ (i % 8) := by rw [Nat.pow_mul]
  have hi8 : 256 ^ i = 256 ^ (8 * (i / 8)) * 256 ^ (i % 8) := by rw [← Nat.pow_add]; congr 1; omega
  have hq : y / 18446744073709551616 ^ (i / 8) < 256 ^ (i % 8) := by
    rw [hW, Nat.div_lt_iff_lt_mul (Nat.pow_pos (by decide)), Nat.mul_comm, ← hi8]; exact hy
  have hle : (256 : Nat) ^ (i % 8) * 256 ≤ 18446744073709551616 := by
    rw [← Nat.pow_succ]
    exact Nat.pow_le_pow_right (n := 256) (by decide) (show i % 8 + 1 ≤ 8 by omega)
  have hqm : y / 18446744073709551616 ^ (i / 8) % 18446744073709551616 = y / 18446744073709551616 ^ (i / 8) := Nat.mod_eq_of_lt (by omega)
  refine ⟨?_, by rw [hqm, hr]; exact hq⟩
  have hself : (y + 256 ^ i * x) / 18446744073709551616 ^ (i / 8) % 18446744073709551616 = y / 18446744073709551616 ^ (i / 8) % 18446744073709551616 + x * 2 ^ (8 * (i % 8)) := by
    rw [hqm, hr, hi8, hW, Nat.mul_assoc, Nat.add_mul_div_left _ _ (Nat.pow_pos (by decide)), Nat.mul_comm x]
    rw [hW] at hq
    refine Nat.mod_eq_of_lt ?_
    have : 256 ^ (i % 8) * x + 256 ^ (i % 8) ≤ 256 ^ (i % 8) * 256 := by
      rw [← Nat.mul_succ]; exact Nat.mul_le_mul_left _ hx
    omega
  have hlow : ∀ k, k < i / 8 → (y + 256 ^ i * x) / 18446744073709551616 ^ k % 18446744073709551616 = y / 18446744073709551616 ^ k % 18446744073709551616 := fun k hk => by
    have : 256 ^ i = 18446744073709551616 ^ k * (18446744073709551616 * 256 ^ (i - 8 * (k + 1))) := by
      rw [← Nat.mul_assoc, ← Nat.pow_succ, hW, ← Nat.pow_add]; congr 1; omega
    rw [this, Nat.mul_assoc, Nat.add_mul_div_left _ _ (Nat.pow_pos (by decide)), Nat.mul_assoc, Nat.add_mul_mod_self_left]
  have hhigh : ∀ k, i / 8 < k → (y + 256 ^ i * x) / 18446744073709551616 ^ k % 18446744073709551616 = y / 18446744073709551616 ^ k % 18446744073709551616 := fun k hk => by
    have h1 : 256 ^ (i + 1) ≤ 18446744073709551616 ^ k := by rw [hW]; exact Nat.pow_le_pow_right (by decide) (by omega)
    have h2 : y + 256 ^ i * x < 256 ^ (i + 1) := by
      rw [Nat.pow_succ]
      have : 256 ^ i * x + 256 ^ i ≤ 256 ^ i * 256 := by rw [← Nat.mul_succ]; exact Nat.mul_le_mul_left _ hx
      omega
    have h3 : y < 18446744073709551616 ^ k := by omega
    rw [Nat.div_eq_of_lt (by omega), Nat.div_eq_of_lt h3]
  refine List.ext_getElem? fun k => ?_
  by_cases hk : k < 4
  · have e : ∀ z, (elN z)[k]? = some (z / 18446744073709551616 ^ k % 18446744073709551616) := fun z => by
      rw [← elN_getD z hk, List.getD_eq_getElem?_getD, List.getElem?_eq_getElem (by simpa [elN] using hk)]; rfl
    by_cases hki : k = i / 8
    · rw [e, ← hki, List.getElem?_set_self (by simpa [elN] using hk), hki, hself]
    · rw [e, List.getElem?_set_ne (Ne.symm hki), e]
      rcases Nat.lt_or_gt_of_ne hki with h | h
      · rw [hlow k h]
      · rw [hhigh k h]
  · rw [List.getElem?_eq_none (by simp [elN]; omega), List.getElem?_eq_none (by simp [elN]; omega)]
def readR (y : Nat) : List Int × Bool := if y < prm then (el y, true) else ([0, 0, 0, 0], false)
theorem lev_lt4 {b : List UInt8} (hb : b.length = 32) : lev b < 18446744073709551616 ^ 4 := by
  have := lev_lt b
  rw [hb] at this
  exact this
theorem or_byte {w x s : Nat} (hw : w < 2 ^ s) (hx : x < 256) (hs : s ≤ 56) (hxs : x * 2 ^ s + 2 ^ s ≤ 18446744073709551616) : wordOr .u64 (w : Int) (wordShl .u64 (wu64 (x : Int)) (s : Int)) = ((w + x * 2 ^ s : Nat) : Int) := by
  have hp : 0 < (2 : Nat) ^ s := Nat.pow_pos (by decide)
  rw [wu64_nat, Nat.mod_eq_of_lt (a := x) (by omega), wordShl_u64 _ _ (by omega), Nat.mod_eq_of_lt (a := x * 2 ^ s) (by omega), wordOr_u64 (by omega) (by omega), Nat.or_comm, or_high (m := s) ⟨_, Nat.mul_comm _ _⟩ hw, Nat.add_comm]
theorem add_byte {w x s : Nat} (hw : w < 2 ^ s) (hx : x < 256) (hs : s ≤ 56) (hxs : x * 2 ^ s + 2 ^ s ≤ 18446744073709551616) : wu64 ((w : Int) + wordShl .u64 (wu64 (x : Int)) (s : Int)) = ((w + x * 2 ^ s : Nat) : Int) := by
  have hp : 0 < (2 : Nat) ^ s := Nat.pow_pos (by decide)
  rw [wu64_nat, Nat.mod_eq_of_lt (a := x) (by omega), wordShl_u64 _ _ (by omega), Nat.mod_eq_of_lt (a := x * 2 ^ s) (by omega), wu64_two, Nat.mod_eq_of_lt (by omega)]
theorem byte_room {x i : Nat} (hx : x < 256) : x * 2 ^ (8 * (i % 8)) + 2 ^ (8 * (i % 8)) ≤ 18446744073709551616 := by
  have hp : (2 : Nat) ^ (8 * (i % 8)) * 256 ≤ 18446744073709551616 := by
    rw [Nat.pow_mul, ← Nat.pow_succ]
    exact Nat.pow_le_pow_right (n := 256) (by decide) (show i % 8 + 1 ≤ 8 by omega)
  refine Nat.le_trans ?_ hp
  rw [Nat.mul_comm (2 ^ _) 256, ← Nat.succ_mul]
  exact Nat.mul_le_mul_right _ hx
set_option maxHeartbeats 2000000 in
theorem f_read_eq (b : List UInt8) (hb : b.length = 32) : F_field_Read (bytesV b) = some (readR (lev b)) := by
  unfold F_field_Read
  rw [if_pos ⟨by rw [bytesV_length, hb], one_bytesV b⟩, if_pos ⟨by rw [List.length_map, bytesV_length, hb]; exact Nat.le_refl _, by decide⟩, List.drop_zero, List.take_of_length_le (by rw [List.length_map, bytesV_length]; omega), pures_map_p, Option.bind_some]
  refine (congrArg (loopO _) ?_).trans (loopO_run (ι := Nat) (fun i => (natR (elN (lev (b.take i))), bytesV b, (i : Int))) (fun _ => readR (lev b)) (fun i => i ≤ 32) (fun i => 32 - i) ?_ 0 (by omega))
  · rw [show b.take 0 = [] from List.take_zero]; rfl
  · intro i hi
    dsimp only
    by_cases hlt : i < 32
    · left
      refine ⟨i + 1, ?_, by omega, by omega, rfl⟩
      have hq : w64 (Int.tdiv (i : Int) 8) = ((i / 8 : Nat) : Int) := by rw [show Int.tdiv (i : Int) 8 = ((i / 8 : Nat) : Int) from rfl, w64_nat (by omega)]
      have hs : w64 (8 * Int.tmod (i : Int) 8) = ((8 * (i % 8) : Nat) : Int) := by rw [show Int.tmod (i : Int) 8 = ((i % 8 : Nat) : Int) from rfl, show (8 : Int) * ((i % 8 : Nat) : Int) = ((8 * (i % 8) : Nat) : Int) by omega, w64_nat (by omega)]
      have hx : (bytesV b)[Int.toNat (i : Int)]? = some (byteV (b.getD i 0)) := by rw [Int.toNat_natCast]; exact bytesV_getD (by omega)
      have hx8 := u8_lt (b.getD i 0)
      have hy := lev_lt (b.take i)
      rw [List.length_take, Nat.min_eq_left (by omega)] at hy
      have ht := lev_take (b := b) (i := i) (by omega)
      obtain ⟨hw, hwl⟩ := word_add hy hx8 hlt
      rw [← ht] at hw
      have hln : (natR (elN (lev (b.take i)))).length = 4 := rfl
      rw [if_pos (by simp; omega), if_pos (by omega), hx, Option.bind_some, byteV_int, Option.bind_some, hq, if_pos (by omega), Int.toNat_natCast, Nat.zero_add, Nat.mul_one, if_pos (by omega), getT4 _ (by omega), Option.bind_some, T.val?, Option.bind_some, int?_int, Option.bind_some,
        natR_getD (elN (lev (b.take i))) (i / 8), elN_getD _ (by omega), hs, if_neg (by omega), if_pos (by omega), if_pos (by omega), if_pos (by omega), or_byte hwl hx8 (by omega) (byte_room hx8)]
      refine bind_to (bind_to (bind_to (setT4 hln _ (by omega)) rfl) rfl) ?_
      dsimp only
      rw [natR_set, ← hw, w64_nx (by omega)]
    · right
      have hi32 : i = 32 := by omega
      subst hi32
      have hl4 := lev_lt4 hb
      rw [if_neg (by simp), List.take_of_length_le (by omega), ← el_natR]
      refine bind_to (v := readR (lev b)) ?_ rfl
      rw [prime_eq, Option.bind_some]
      simp only [el_row, List.getD_cons_zero, List.getD_cons_succ]
      rw [minus_eq _ _ hl4 prm_lt, Option.bind_some]
      simp only
      unfold readR
      by_cases hlt : lev b < prm
      · rw [if_pos hlt, if_neg (by decide), if_pos hlt]
      · rw [if_neg hlt, if_pos (by decide), if_neg hlt]
set_option maxHeartbeats 2000000 in
theorem whole_eq (b : List UInt8) (hb : b.length = 32) : F_affiantref11_Whole (bytesV b) = some (el (lev b)) := by
  unfold F_affiantref11_Whole
  refine (congrArg (loopO _) ?_).trans (loopO_run (ι := Nat) (fun i => (bytesV b, natR (elN (lev (b.take i))), (i : Int))) (fun _ => el (lev b)) (fun i => i ≤ 32) (fun i => 32 - i) ?_ 0 (by omega))
  · rw [show b.take 0 = [] from List.take_zero]; rfl
  · intro i hi
    dsimp only
    by_cases hlt : i < 32
    · left
      refine ⟨i + 1, ?_, by omega, by omega, rfl⟩
      have hq : w64 (Int.tdiv (i : Int) 8) = ((i / 8 : Nat) : Int) := by rw [show Int.tdiv (i : Int) 8 = ((i / 8 : Nat) : Int) from rfl, w64_nat (by omega)]
      have hs : wu64 (w64 (8 * Int.tmod (i : Int) 8)) = ((8 * (i % 8) : Nat) : Int) := by rw [show Int.tmod (i : Int) 8 = ((i % 8 : Nat) : Int) from rfl, show (8 : Int) * ((i % 8 : Nat) : Int) = ((8 * (i % 8) : Nat) : Int) by omega, w64_nat (by omega), wu64_nat, Nat.mod_eq_of_lt (by omega)]
      have hx : (bytesV b)[Int.toNat (i : Int)]? = some (byteV (b.getD i 0)) := by rw [Int.toNat_natCast]; exact bytesV_getD (by omega)
      have hx8 := u8_lt (b.getD i 0)
      have hy := lev_lt (b.take i)
      rw [List.length_take, Nat.min_eq_left (by omega)] at hy
      have ht := lev_take (b := b) (i := i) (by omega)
      obtain ⟨hw, hwl⟩ := word_add hy hx8 hlt
      rw [← ht] at hw
      have hln : (natR (elN (lev (b.take i)))).length = 4 := rfl
      refine bind_to (v := true) ?_ ?_
      · rw [if_pos (by simp; omega)]; simp [len, hb, hlt]; omega
      · rw [if_pos rfl, hq, if_pos (by omega), Int.toNat_natCast, Nat.zero_add, Nat.mul_one, if_pos (by omega), getT4 _ (by omega), Option.bind_some, T.val?, Option.bind_some, int?_int, Option.bind_some, if_pos (by omega), hx, Option.bind_some, byteV_int, Option.bind_some,
          natR_getD (elN (lev (b.take i))) (i / 8), elN_getD _ (by omega), hs, if_neg (by omega), if_pos (by omega), if_pos (by omega), if_pos (by omega), add_byte hwl hx8 (by omega) (byte_room hx8)]
        refine bind_to (bind_to (bind_to (bind_to (setT4 hln _ (by omega)) rfl) rfl) rfl) ?_
        dsimp only
        rw [natR_set, ← hw, w64_nx (by omega)]
    · right
      have hi32 : i = 32 := by omega
      subst hi32
      refine bind_to (v := false) ?_ ?_
      · rw [if_neg (by simp)]
      · rw [if_neg (by simp), List.take_of_length_le (by omega), ← el_natR, el_row]; rfl
theorem r_read_eq (b : List UInt8) (hb : b.length = 32) : F_affiantref11_Read (bytesV b) = some (readR (lev b)) := by
  unfold F_affiantref11_Read
  simp only [List.getD_cons_zero, List.getD_cons_succ]
  have hl4 := lev_lt4 hb
  have hst : V.stabL (bytesV b) = true := by
    clear hb hl4
    induction b with
    | nil => rfl
    | cons x b ih => simp only [bytesV_cons, V.stabL, ih, Bool.and_true]; rfl
  rw [if_pos ⟨by rw [bytesV_length, hb], one_bytesV b⟩, if_pos ⟨by decide, by decide, by rw [List.length_map, bytesV_length, hb]; exact Nat.le_refl _⟩, List.drop_zero, List.take_of_length_le (by rw [List.length_map, bytesV_length]; omega), pures_map_p, Option.bind_some, if_pos hst,
    whole_eq b hb, Option.bind_some, rprime_eq, Option.bind_some, el_row, el_row, less_eq _ _ hl4 prm_lt, Option.bind_some]
  simp only
  unfold readR
  by_cases hlt : lev b < prm
  · rw [if_pos hlt, if_neg (by simpa using hlt)]
  · rw [if_neg hlt, if_pos (by simpa using hlt)]
end Go.Proofs.Ytffofdfikmpanaa.A
namespace Go.Proofs.Ytffofdfikmpanaa.A
set_option linter.unusedVariables false
set_option linter.unusedSimpArgs false
set_option maxRecDepth 10000
def dN : Nat := 37095705934669439343138083508754565189542113879843219016388785533085940283555
theorem number_eq : F_edwards_number PUnit.unit = some (el dN) := by
  have : el dN = [8496970652267935907, 31536524315187371, 10144147576115030168, 5909686906226998899] := by decide +kernel
  rw [this]; rfl
theorem rD_eq : F_affiantref13_D PUnit.unit = some (el dN) := by
  have : el dN = [8496970652267935907, 31536524315187371, 10144147576115030168, 5909686906226998899] := by decide +kernel
  rw [this]; rfl
theorem el_1 : ([1, 0, 0, 0] : List Int) = el 1 := by decide +kernel
theorem one_eq : F_edwards_one PUnit.unit = some (el 1) := by rw [← el_1]; rfl
theorem zero_eq : F_edwards_Zero PUnit.unit = some (el 0, el 1) := by rw [← el_1, ← el_0]; rfl
theorem rzero_eq : F_affiantref13_Zero PUnit.unit = some (el 0, el 1) := by rw [← el_1, ← el_0]; rfl
theorem square_eq (a : Nat) (ha : a < 18446744073709551616 ^ 4) : F_edwards_square (el a) = some (el (a * a % prm)) := by
  unfold F_edwards_square
  simp only [List.getD_cons_zero, List.getD_cons_succ, el_row]
  rw [f_mul_eq a a ha ha, Option.bind_some, el_row]
def upx (y : Nat) : Nat := (y * y % prm + (prm - 1 % prm)) % prm * pwm ((dN * (y * y % prm) % prm + 1) % prm) (prm - 2) % prm
def lowered (b : List UInt8) : List UInt8 := b.set 31 (UInt8.ofNat ((b.getD 31 0).toNat % 128))
def unpackM (b : List UInt8) : Option (Nat × Nat) :=
  if lev (lowered b) < prm then (match rootm (upx (lev (lowered b))) with
    | some x => if 128 ≤ (b.getD 31 0).toNat ∧ x = 0 then none else some (if 128 ≤ (b.getD 31 0).toNat then negm x else x, lev (lowered b))
    | none => none) else none
def unpR (o : Option (Nat × Nat)) : (List Int × List Int) × Bool := match o with
  | some (x, y) => ((el x, el y), true)
  | none => ((el 0, el 1), false)
theorem and_128 {x : Nat} (hx : x < 256) : ((x &&& 128 : Nat) : Int) ≠ 0 ↔ 128 ≤ x := by
  have : ∀ x : Fin 256, ((x.1 &&& 128 : Nat) ≠ 0 ↔ 128 ≤ x.1) := by decide +kernel
  have h := this ⟨x, hx⟩
  simp only at h
  omega
theorem lowered_set (b : List UInt8) (hb : b.length = 32) : (List.map T.p (bytesV b)).set 31 (T.p (V.int .u8 (((b.getD 31 0).toNat % 128 : Nat) : Int))) = List.map T.p (bytesV (lowered b)) := by
  unfold lowered
  rw [← bytesV_set, List.map_set]
  congr 2
  unfold byteV
  congr 1
  simp
  omega
theorem lowered_length (b : List UInt8) : (lowered b).length = b.length := by simp [lowered]
theorem rootm_lt {a x : Nat} (h : rootm a = some x) : x < 18446744073709551616 ^ 4 := by
  unfold rootm at h
  split at h
  · cases h
    split
    · exact mod_prm_lt _
    · exact rt_lt a
  · cases h
theorem get31 (b : List UInt8) (hb : b.length = 32) : (List.map T.p (bytesV b))[31]? = some (T.p (byteV (b.getD 31 0))) := by
  rw [List.getElem?_map, bytesV_getD (by omega)]; rfl
set_option maxHeartbeats 2000000 in
theorem f_unpack_eq (b : List UInt8) (hb : b.length = 32) : F_edwards_Unpack (bytesV b) = some (unpR (unpackM b)) := by
  unfold F_edwards_Unpack
  simp only [List.getD_cons_zero, List.getD_cons_succ]
  have hlen : (List.map T.p (bytesV b)).length = 32 := by rw [List.length_map, bytesV_length, hb]
  have hb31 := u8_lt (b.getD 31 0)
  have hand : wordAnd .u8 (((b.getD 31 0).toNat : Nat) : Int) 127 = (((b.getD 31 0).toNat % 128 : Nat) : Int) := by
    rw [show (127 : Int) = ((127 : Nat) : Int) from rfl, wordAnd_u8 hb31 (by decide), show (127 : Nat) = 2 ^ 7 - 1 from rfl, Nat.and_two_pow_sub_one_eq_mod]
  have h128 : wordAnd .u8 (((b.getD 31 0).toNat : Nat) : Int) 128 = (((b.getD 31 0).toNat &&& 128 : Nat) : Int) := by
    rw [show (128 : Int) = ((128 : Nat) : Int) from rfl, wordAnd_u8 hb31 (by decide)]
  have hodd : ((wordAnd .u8 (((b.getD 31 0).toNat : Nat) : Int) 128 != 0) = true) = (128 ≤ (b.getD 31 0).toNat) := by
    rw [h128]; simp only [bne_iff_ne]; exact propext (and_128 hb31)
  rw [if_pos ⟨by rw [bytesV_length, hb], one_bytesV b⟩, if_pos (by omega), get31 b hb, Option.bind_some, T.val?, Option.bind_some, byteV_int, Option.bind_some, if_pos (by omega), Option.bind_some, T.val?, Option.bind_some, byteV_int, Option.bind_some,
    if_pos (by omega), if_pos (by omega), hand, lowered_set b hb, if_pos ⟨by rw [List.length_map, bytesV_length, lowered_length, hb]; exact Nat.le_refl _, by decide⟩, List.drop_zero, List.take_of_length_le (by rw [List.length_map, bytesV_length, lowered_length, hb]; exact Nat.le_refl _), pures_map_p, Option.bind_some,
    f_read_eq _ (by rw [lowered_length, hb]), Option.bind_some]
  simp only [hodd]
  unfold readR unpackM
  by_cases hy : lev (lowered b) < prm
  · have hy4 : lev (lowered b) < 18446744073709551616 ^ 4 := Nat.lt_trans hy prm_lt
    simp only [if_pos hy, el_row]
    generalize lev (lowered b) = y at hy hy4 ⊢
    rw [if_neg (by decide), square_eq y hy4, Option.bind_some, one_eq, Option.bind_some]
    simp only [el_row]
    rw [f_sub_eq _ _ (mod_prm_lt _) (by decide), Option.bind_some, number_eq, Option.bind_some]
    simp only [el_row]
    rw [f_mul_eq _ _ (by decide) (mod_prm_lt _), Option.bind_some, Option.bind_some]
    simp only [el_row]
    rw [f_add_eq _ _ (mod_prm_lt _) (by decide), Option.bind_some]
    simp only [el_row]
    rw [f_inv_eq _ (mod_prm_lt _), Option.bind_some]
    simp only [el_row]
    rw [f_mul_eq _ _ (mod_prm_lt _) (pwm_lt4 _ _), Option.bind_some]
    simp only [el_row]
    rw [show (y * y % prm + (prm - 1 % prm)) % prm * pwm ((dN * (y * y % prm) % prm + 1) % prm) (prm - 2) % prm = upx y from rfl, f_root_eq (upx y) (mod_prm_lt _), Option.bind_some]
    cases hr : rootm (upx y) with
    | none =>
      rw [show rootR none = (([0, 0, 0, 0] : List Int), false) from rfl]
      refine bind_to (v := true) ?_ ?_
      · exact if_neg (by decide)
      · rw [if_pos rfl, zero_eq, Option.bind_some]; rfl
    | some x =>
      have hx4 := rootm_lt hr
      rw [show rootR (some x) = (el x, true) from rfl]
      refine bind_to (v := decide (128 ≤ (b.getD 31 0).toNat ∧ x = 0)) ?_ ?_
      · refine (if_pos rfl).trans ?_
        by_cases ho : 128 ≤ (b.getD 31 0).toNat
        · rw [if_pos ho]
          show some (el x == [0, 0, 0, 0]) = _
          rw [el_0, el_inj hx4 (by decide)]
          exact congrArg some (decide_eq_decide.2 ⟨fun h => ⟨ho, h⟩, fun h => h.2⟩)
        · rw [if_neg ho, decide_eq_false (fun h => ho h.1)]
      · dsimp only
        by_cases hz : 128 ≤ (b.getD 31 0).toNat ∧ x = 0
        · rw [if_pos (by simpa using hz), if_pos hz, zero_eq, Option.bind_some]; rfl
        · rw [if_neg (by simpa using hz), if_neg hz]
          by_cases ho : 128 ≤ (b.getD 31 0).toNat
          · refine bind_to (v := Sum.inl (el (negm x))) ?_ ?_
            · rw [if_pos ho]
              simp only [el_row]
              rw [el_0, f_sub_eq 0 x (by decide) hx4, Option.bind_some, el_row]; rfl
            · rw [if_pos ho]; rfl
          · refine bind_to (v := Sum.inl (el x)) ?_ ?_
            · rw [if_neg ho]; rfl
            · rw [if_neg ho]; rfl
  · simp only [if_neg hy]
    rw [if_pos (by decide), zero_eq, Option.bind_some]; rfl
set_option maxHeartbeats 2000000 in
theorem r_unpack_eq (b : List UInt8) (hb : b.length = 32) : F_affiantref13_Unpack (bytesV b) = some (unpR (unpackM b)) := by
  unfold F_affiantref13_Unpack
  simp only [List.getD_cons_zero, List.getD_cons_succ]
  have hlen : (List.map T.p (bytesV b)).length = 32 := by rw [List.length_map, bytesV_length, hb]
  have hb31 := u8_lt (b.getD 31 0)
  have hand : Int.tmod (((b.getD 31 0).toNat : Nat) : Int) 128 = (((b.getD 31 0).toNat % 128 : Nat) : Int) := rfl
  have hodd : (decide ((((b.getD 31 0).toNat : Nat) : Int) ≥ 128) = true) = (128 ≤ (b.getD 31 0).toNat) := by
    rw [decide_eq_true_eq]; exact propext (by omega)
  rw [if_pos ⟨by rw [bytesV_length, hb], one_bytesV b⟩, if_pos (by omega), get31 b hb, Option.bind_some, T.val?, Option.bind_some, byteV_int, Option.bind_some, if_pos (by omega), Option.bind_some, T.val?, Option.bind_some, byteV_int, Option.bind_some,
    if_pos (by omega), if_pos (by omega), hand, lowered_set b hb, if_pos ⟨by rw [List.length_map, bytesV_length, lowered_length, hb]; exact Nat.le_refl _, by decide⟩, List.drop_zero, List.take_of_length_le (by rw [List.length_map, bytesV_length, lowered_length, hb]; exact Nat.le_refl _), pures_map_p, Option.bind_some,
    r_read_eq _ (by rw [lowered_length, hb]), Option.bind_some]
  simp only [hodd]
  have key : ∀ (y : Nat) (ok : Bool), y < 18446744073709551616 ^ 4 → (ok = true → y = lev (lowered b)) →
      readR (lev (lowered b)) = (el y, ok) → readR (lev (lowered b)) = (el y, ok) := fun _ _ _ _ h => h
  have hread : ∃ y ok, readR (lev (lowered b)) = (el y, ok) ∧ y < 18446744073709551616 ^ 4 ∧ (ok = decide (lev (lowered b) < prm)) ∧ (ok = true → y = lev (lowered b)) := by
    unfold readR
    by_cases hy : lev (lowered b) < prm
    · exact ⟨lev (lowered b), true, by rw [if_pos hy], Nat.lt_trans hy prm_lt, by simp [hy], fun _ => rfl⟩
    · exact ⟨0, false, by rw [if_neg hy, el_0], by decide, by simp [hy], fun h => by cases h⟩
  obtain ⟨y, ok, hr0, hy4, hok, hyl⟩ := hread
  rw [hr0]
  simp only [el_row]
  rw [r_mul_eq _ _ hy4 hy4, Option.bind_some, el_1]
  simp only [el_row]
  rw [r_sub_eq _ _ (mod_prm_lt _) (by decide), Option.bind_some, rD_eq, Option.bind_some]
  simp only [el_row]
  rw [r_mul_eq _ _ (by decide) (mod_prm_lt _), Option.bind_some]
  simp only [el_row]
  rw [r_add_eq _ _ (mod_prm_lt _) (by decide), Option.bind_some]
  simp only [el_row]
  rw [r_inv_eq _ (mod_prm_lt _), Option.bind_some]
  simp only [el_row]
  rw [r_mul_eq _ _ (mod_prm_lt _) (pwm_lt4 _ _), Option.bind_some]
  simp only [el_row]
  rw [show (y * y % prm + (prm - 1 % prm)) % prm * pwm ((dN * (y * y % prm) % prm + 1) % prm) (prm - 2) % prm = upx y from rfl, r_root_eq (upx y) (mod_prm_lt _), Option.bind_some]
  unfold unpackM
  cases ok with
  | false =>
    have hn : ¬ lev (lowered b) < prm := by simpa using hok.symm
    rw [if_neg hn]
    refine bind_to (v := true) ?_ ?_
    · rw [if_neg (by decide)]
    · rw [if_pos rfl, rzero_eq, Option.bind_some]; rfl
  | true =>
    have hp : lev (lowered b) < prm := by simpa using hok.symm
    obtain rfl := hyl rfl
    rw [if_pos hp]
    generalize lev (lowered b) = y at *
    cases hr : rootm (upx y) with
    | none =>
      rw [show rootR none = (([0, 0, 0, 0] : List Int), false) from rfl]
      refine bind_to (v := true) ?_ ?_
      · exact (if_pos rfl).trans (if_neg (by decide))
      · rw [if_pos rfl, rzero_eq, Option.bind_some]; rfl
    | some x =>
      have hx4 := rootm_lt hr
      rw [show rootR (some x) = (el x, true) from rfl]
      refine bind_to (v := decide (128 ≤ (b.getD 31 0).toNat ∧ x = 0)) ?_ ?_
      · refine ((if_pos rfl).trans (if_pos rfl)).trans ?_
        by_cases ho : 128 ≤ (b.getD 31 0).toNat
        · rw [if_pos ho]
          show some (el x == [0, 0, 0, 0]) = _
          rw [el_0, el_inj hx4 (by decide)]
          exact congrArg some (decide_eq_decide.2 ⟨fun h => ⟨ho, h⟩, fun h => h.2⟩)
        · rw [if_neg ho, decide_eq_false (fun h => ho h.1)]
      · dsimp only
        by_cases hz : 128 ≤ (b.getD 31 0).toNat ∧ x = 0
        · rw [if_pos (by simpa using hz), if_pos hz, rzero_eq, Option.bind_some]; rfl
        · rw [if_neg (by simpa using hz), if_neg hz]
          by_cases ho : 128 ≤ (b.getD 31 0).toNat
          · refine bind_to (v := Sum.inl (el (negm x))) ?_ ?_
            · rw [if_pos ho]
              simp only [el_row]
              rw [el_0, r_sub_eq 0 x (by decide) hx4, Option.bind_some, el_row]; rfl
            · rw [if_pos ho]; rfl
          · refine bind_to (v := Sum.inl (el x)) ?_ ?_
            · rw [if_neg ho]; rfl
            · rw [if_neg ho]; rfl
end Go.Proofs.Ytffofdfikmpanaa.A
namespace Go.Proofs.Ytffofdfikmpanaa.A
set_option linter.unusedVariables false
set_option linter.unusedSimpArgs false
set_option maxRecDepth 10000
theorem val_even (l : List Nat) : val W32 l % 2 = l.getD 0 0 % 2 := by
  cases l with
  | nil => rfl
  | cons d l => simp only [val, List.getD_cons_zero, show W32 = 4294967296 from rfl]; omega
theorem nat_bit0_eq (l : List Nat) (hl : isW l) : F_nat_Bit (numV .u32 l, 0) = some ((val W32 l % 2 : Nat) : Int) := by
  unfold F_nat_Bit
  rw [val_even]
  have e0 : w64 (Int.tdiv 0 32) = ((0 : Nat) : Int) := by decide +kernel
  simp only [e0]
  cases l with
  | nil =>
    refine bind_to (v := true) ?_ ?_
    · rw [if_pos (by decide)]; rfl
    · rfl
  | cons d r =>
    have hd : d < 4294967296 := hl d (by simp)
    refine bind_to (v := false) ?_ ?_
    · rw [if_pos (by decide)]
      simp [len, numV]
    · rw [if_neg (by simp), if_pos (by omega), Int.toNat_natCast]
      refine bind_to (v := V.int .u32 (d : Int)) rfl ?_
      rw [int?_int, Option.bind_some, if_neg (by decide)]
      rw [show Int.tmod 0 32 = ((0 : Nat) : Int) from by decide, wordShr_u32 _ 0 (by omega), Nat.pow_zero, Nat.div_one, show (1 : Int) = ((1 : Nat) : Int) from rfl, wordAnd_u32 hd (by decide), Nat.and_one_is_mod, w64_nat (by omega)]
      rfl
theorem r04_bit0_eq (l : List Nat) (hl : isW l) : F_affiantref04_Bit (numV .u32 l, 0) = some ((val W32 l % 2 : Nat) : Int) := by
  unfold F_affiantref04_Bit
  rw [val_even]
  have e0 : w64 (Int.tdiv 0 32) = ((0 : Nat) : Int) := by decide +kernel
  simp only [e0]
  cases l with
  | nil =>
    refine bind_to (v := true) ?_ ?_
    · rw [if_pos (by decide)]; rfl
    · rfl
  | cons d r =>
    have hd : d < 4294967296 := hl d (by simp)
    refine bind_to (v := false) ?_ ?_
    · rw [if_pos (by decide)]
      simp [len, numV]
    · have hs : wordShl .u32 1 (wu64 (Int.tmod 0 32)) = ((1 : Nat) : Int) := by decide +kernel
      rw [if_neg (by simp), if_pos (by omega), Int.toNat_natCast]
      refine bind_to (v := V.int .u32 (d : Int)) rfl ?_
      rw [int?_int, Option.bind_some, if_neg (by decide +kernel), hs, if_neg (by omega), show Int.tdiv (d : Int) ((1 : Nat) : Int) = ((d / 1 : Nat) : Int) from rfl, Nat.div_one, wu32_nat, Nat.mod_eq_of_lt hd,
        show Int.tmod (d : Int) 2 = ((d % 2 : Nat) : Int) from rfl, w64_nat (by omega)]
      rfl
def rsaM (n e : Nat) : Int := if bitlen n < 2048 then 10 else if 8192 < bitlen n then 4 else if n % 2 = 0 ∨ e % 2 = 0 ∨ bitlen e < 2 ∨ 64 < bitlen e then 1 else 0
theorem odd_eq (l : List Nat) (hl : isW l) : F_rsa_isOdd (numV .u32 l) = some (decide (val W32 l % 2 = 1)) := by
  unfold F_rsa_isOdd
  rw [nat_bit0_eq l hl, Option.bind_some]
  refine congrArg some ?_
  rw [Bool.eq_iff_iff, bne_iff_ne, decide_eq_true_eq]
  omega
theorem rsa_check_eq (n e : List Nat) (hn : isW n) (he : isW e) (hnl : n.length ≤ 100000) (hel : e.length ≤ 100000) : F_rsa_Check (numV .u32 n, numV .u32 e) = some (rsaM (val W32 n) (val W32 e)) := by
  unfold F_rsa_Check rsaM
  simp only [decide_eq_true_eq, decide_eq_false_iff_not]
  rw [nat_bits_eq n hn (by omega), Option.bind_some, nat_bits_eq e he (by omega), odd_eq n hn, odd_eq e he]
  simp only [Option.bind_some]
  by_cases h1 : bitlen (val W32 n) < 2048
  · rw [if_pos (by omega), if_pos h1]
  rw [if_neg (by omega), if_neg h1]
  by_cases h2 : 8192 < bitlen (val W32 n)
  · rw [if_pos (by omega), if_pos h2]
  rw [if_neg (by omega), if_neg h2]
  refine bind_to (v := decide (val W32 n % 2 = 0 ∨ val W32 e % 2 = 0 ∨ bitlen (val W32 e) < 2 ∨ 64 < bitlen (val W32 e))) ?_ ?_
  · by_cases h3 : val W32 n % 2 = 1
    · rw [if_pos (by simp [h3])]
      by_cases h4 : val W32 e % 2 = 1
      · rw [if_pos (by simp [h4])]
        by_cases h5 : bitlen (val W32 e) < 2
        · rw [if_neg (by omega), decide_eq_true (by omega)]
        · rw [if_pos (by omega)]
          refine congrArg some (decide_eq_decide.2 ?_); omega
      · rw [if_neg (by simp [h4]), decide_eq_true (by omega)]
    · rw [if_neg (by simp [h3]), decide_eq_true (by omega)]
  · simp only [decide_eq_true_eq]
    split <;> rfl
theorem r10_check_eq (n e : List Nat) (hn : isW n) (he : isW e) (hnl : n.length ≤ 100000) (hel : e.length ≤ 100000) : F_affiantref10_Check (numV .u32 n, numV .u32 e) = some (rsaM (val W32 n) (val W32 e)) := by
  unfold F_affiantref10_Check rsaM
  simp only [decide_eq_true_eq, decide_eq_false_iff_not]
  rw [r04_bits_eq n hn (by omega), Option.bind_some, r04_bits_eq e he (by omega), r04_bit0_eq n hn, r04_bit0_eq e he]
  simp only [Option.bind_some]
  by_cases h1 : bitlen (val W32 n) < 2048
  · rw [if_pos (by omega), if_pos h1]
  rw [if_neg (by omega), if_neg h1]
  by_cases h2 : 8192 < bitlen (val W32 n)
  · rw [if_pos (by omega), if_pos h2]
  rw [if_neg (by omega), if_neg h2]
  refine bind_to (v := decide (val W32 n % 2 = 0 ∨ val W32 e % 2 = 0 ∨ bitlen (val W32 e) < 2 ∨ 64 < bitlen (val W32 e))) ?_ ?_
  · by_cases h3 : val W32 n % 2 = 1
    · rw [if_pos (by simp [h3])]
      by_cases h4 : val W32 e % 2 = 1
      · rw [if_pos (by simp [h4])]
        by_cases h5 : bitlen (val W32 e) < 2
        · rw [if_neg (by omega), decide_eq_true (by omega)]
        · rw [if_pos (by omega)]
          refine congrArg some (decide_eq_decide.2 ?_); omega
      · rw [if_neg (by simp only [beq_eq_false_iff_ne, ne_eq, Classical.not_not]; omega), decide_eq_true (by omega)]
    · rw [if_neg (by simp only [beq_eq_false_iff_ne, ne_eq, Classical.not_not]; omega), decide_eq_true (by omega)]
  · simp only [decide_eq_true_eq]
    split <;> rfl
def KeyM.check (k : KeyM) : Int := if k.may then (if k.alg = 1 then rsaM k.N k.E else if (unpackM k.pt).isSome then 0 else 1) else 1
theorem unpR_snd (o : Option (Nat × Nat)) : (unpR o).2 = o.isSome := by
  cases o with
  | none => rfl
  | some p => rfl
theorem key_check_eq (k : KeyM) (h : k.Ok) : F_key_Check k.tup = some k.check := by
  have hm := key_may_eq k h
  unfold KeyM.tup at hm ⊢
  unfold F_key_Check KeyM.check
  simp only [fitI_intB h.p]
  rw [hm, Option.bind_some, arrV_intB h.p]
  by_cases may : k.may
  · rw [if_neg (by simp [may]), if_pos may]
    by_cases h1 : k.alg = 1
    · rw [if_pos (by simp [h1]), if_pos h1, rsa_check_eq k.n k.e h.n h.e h.nl h.el]; rfl
    · rw [if_neg (by simp [h1]), if_neg h1, f_unpack_eq k.pt h.p, Option.bind_some]
      simp only [unpR_snd]
      cases (unpackM k.pt).isSome <;> rfl
  · rw [if_pos (by simp [may]), if_neg may]
theorem r23_check_eq (k : KeyM) (h : k.Ok) : F_affiantref23_Check k.tup = some k.check := by
  have hm := r23_emit_eq k h
  unfold KeyM.tup at hm ⊢
  unfold F_affiantref23_Check KeyM.check
  simp only [fitI_intB h.p]
  rw [hm, arrV_intB h.p]
  by_cases may : k.may
  · rw [if_pos may, Option.bind_some, if_pos may]
    rw [if_neg (by simp)]
    by_cases h1 : k.alg = 1
    · rw [if_pos (by simp [h1]), if_pos h1, r10_check_eq k.n k.e h.n h.e h.nl h.el]; rfl
    · rw [if_neg (by simp [h1]), if_neg h1, r_unpack_eq k.pt h.p, Option.bind_some]
      simp only [unpR_snd]
      cases (unpackM k.pt).isSome <;> rfl
  · rw [if_neg may, Option.bind_some, if_neg may]
    rfl
theorem r23_same_eq (k j : KeyM) (hk : k.Ok) (hj : j.Ok) : F_affiantref23_Same (k.tup, j.tup) = some (decide (k.may ∧ j.may ∧ k.image = j.image)) := by
  have h1 := r23_image_eq k hk
  have h2 := r23_image_eq j hj
  unfold KeyM.tup at h1 h2 ⊢
  unfold F_affiantref23_Same
  simp only [fitI_intB hk.p, fitI_intB hj.p]
  rw [h1, Option.bind_some, h2, Option.bind_some]
  refine bind_to (v := decide (k.may ∧ j.may ∧ k.image = j.image)) ?_ rfl
  by_cases mk : k.may
  · by_cases mj : j.may
    · simp only [if_pos mk, if_pos mj, all_eq, unbytes_bytesV, Option.bind_some]
      rw [if_pos (by rfl), if_pos (by rfl)]
      refine congrArg some ?_
      rw [Bool.eq_iff_iff, beq_iff_eq, decide_eq_true_eq]
      exact ⟨fun h => ⟨mk, mj, h⟩, fun h => h.2.2⟩
    · simp only [if_pos mk, if_neg mj]
      rw [if_pos (by rfl), if_neg (by decide), decide_eq_false (fun h => mj h.2.1)]
  · simp only [if_neg mk]
    rw [if_neg (by decide), decide_eq_false (fun h => mk h.1)]
theorem law_KeyCheck (k j : KeyM) (hk : k.Ok0) (hj : j.Ok0) : F_affiantlaw23_KeyCheck (k.tup, j.tup) = some true := by
  have ha : F_affiantlaw23_alive PUnit.unit = some true := alive23
  unfold F_affiantlaw23_KeyCheck KeyM.tup
  simp only [fitI_intB hk.p, fitI_intB hj.p]
  rw [small23 k, small23 j]
  by_cases h1 : k.n.length ≤ 520 ∧ k.e.length ≤ 520
  · by_cases h2 : j.n.length ≤ 520 ∧ j.e.length ≤ 520
    · have ok := hk.ok (by omega) (by omega)
      have oj := hj.ok (by omega) (by omega)
      have c1 := key_check_eq k ok
      have c2 := r23_check_eq k ok
      have s1 := key_same_eq k j ok oj
      have s2 := r23_same_eq k j ok oj
      unfold KeyM.tup at c1 c2 s1 s2
      refine bind_to (v := false) ?_ ?_
      · rw [Option.bind_some, if_pos (by simp [h1]), Option.bind_some]; simp [h2]
      · rw [if_neg (by simp), ha, c1, c2, s1, s2]
        simp
    · refine bind_to (v := true) ?_ ?_
      · rw [Option.bind_some, if_pos (by simp [h1]), Option.bind_some, decide_eq_false h2]; rfl
      · rw [if_pos rfl, ha, Option.bind_some]
  · refine bind_to (v := true) ?_ ?_
    · rw [Option.bind_some, if_neg (by simp [h1])]
    · rw [if_pos rfl, ha, Option.bind_some]
end Go.Proofs.Ytffofdfikmpanaa.A
