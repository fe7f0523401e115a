/- What the printed functions answer, in plain terms. Conditions: none. -/
import Derived.Test.YtffofdfikmpanaaDoorLE
import Derived.Test.YtffofdfikmpanaaDoorG1
set_option linter.unusedVariables false
set_option linter.unusedSimpArgs false
set_option linter.constructorNameAsVariable false
set_option linter.unusedSectionVars false

namespace Go.Proofs.YtffofdfikmpanaaDoor.A
set_option linter.unusedVariables false
set_option linter.unusedSimpArgs false

/-- Numbers of one kind. -/
def numV (k : IntKind) (l : List Nat) : List V := l.map fun (n : Nat) => V.int k (n : Int)
@[simp] theorem numV_length (k : IntKind) (l : List Nat) : (numV k l).length = l.length := by simp [numV]
theorem numV_get (k : IntKind) (l : List Nat) (i : Nat) : (numV k l)[i]? = (l[i]?).map fun (n : Nat) => V.int k (n : Int) := by simp [numV]
theorem numV_append (k : IntKind) (l m : List Nat) : numV k (l ++ m) = numV k l ++ numV k m := by simp [numV]
theorem numV_take (k : IntKind) (l : List Nat) (n : Nat) : (numV k l).take n = numV k (l.take n) := by simp [numV, List.map_take]
theorem numV_drop (k : IntKind) (l : List Nat) (n : Nat) : (numV k l).drop n = numV k (l.drop n) := by simp [numV, List.map_drop]
theorem numV_set (k : IntKind) (l : List Nat) (i n : Nat) : (numV k l).set i (.int k (n : Int)) = numV k (l.set i n) := by simp [numV, List.map_set]
theorem numV_cons (k : IntKind) (n : Nat) (l : List Nat) : numV k (n :: l) = .int k (n : Int) :: numV k l := rfl
@[simp] theorem numV_nil (k : IntKind) : numV k [] = [] := rfl
theorem numV_replicate (k : IntKind) (n m : Nat) : numV k (List.replicate n m) = List.replicate n (.int k (m : Int)) := by simp [numV]
theorem numV_getD {k : IntKind} {l : List Nat} {i : Nat} (h : i < l.length) : (numV k l)[i]? = some (.int k ((l.getD i 0 : Nat) : Int)) := by
  rw [numV_get, List.getD_eq_getElem?_getD, List.getElem?_eq_getElem h]; rfl
theorem bytesV_getD {l : List UInt8} {i : Nat} (h : i < l.length) : (bytesV l)[i]? = some (byteV (l.getD i 0)) := by
  rw [bytesV_get, List.getD_eq_getElem?_getD, List.getElem?_eq_getElem h]; rfl
theorem bytesV_set (l : List UInt8) (i : Nat) (b : UInt8) : (bytesV l).set i (byteV b) = bytesV (l.set i b) := by simp [bytesV, List.map_set]
theorem bytesV_replicate (n : Nat) (b : UInt8) : bytesV (List.replicate n b) = List.replicate n (byteV b) := by simp [bytesV]
@[simp] theorem int?_int (k : IntKind) (n : Int) : V.int? k (.int k n) = some n := by simp [V.int?]
@[simp] theorem cells_int (k : IntKind) (n : Int) : (V.int k n).cells = [.int k n] := rfl
@[simp] theorem storeEl_int (k : IntKind) (n : Int) (j : Nat) (v : V) : storeEl (.int k n) j [v] = v := rfl
theorem len_bytesV (l : List UInt8) : len (bytesV l) = (l.length : Int) := by simp [len]
theorem len_numV (k : IntKind) (l : List Nat) : len (numV k l) = (l.length : Int) := by simp [len]

/-! Words that fit. -/
theorem w64_in {n : Int} (h1 : -9223372036854775808 ≤ n) (h2 : n ≤ 9223372036854775807) : w64 n = n := wrap_in h1 h2
theorem w64_nat {n : Nat} (h : n < 9223372036854775808) : w64 (n : Int) = (n : Int) := wrap_nat h
theorem wu8_nat (n : Nat) : wu8 (n : Int) = ((n % 256 : Nat) : Int) := wrap_u8 n
theorem wu32_eq (n : Int) : wu32 n = n % 4294967296 := by simp [wu32, IntKind.wrap, IntKind.bits, IntKind.signed]
theorem wu64_eq (n : Int) : wu64 n = n % 18446744073709551616 := by simp [wu64, IntKind.wrap, IntKind.bits, IntKind.signed]
theorem wu8_eq (n : Int) : wu8 n = n % 256 := by simp [wu8, IntKind.wrap, IntKind.bits, IntKind.signed]
theorem wu32_nat (n : Nat) : wu32 (n : Int) = ((n % 4294967296 : Nat) : Int) := by rw [wu32_eq]; omega
theorem wu64_nat (n : Nat) : wu64 (n : Int) = ((n % 18446744073709551616 : Nat) : Int) := by rw [wu64_eq]; omega
theorem wrap_uns {k : IntKind} (h : k.signed = false) (n : Nat) : k.wrap (n : Int) = ((n % 2 ^ k.bits : Nat) : Int) := by
  cases k <;> simp [IntKind.signed] at h <;> simp [IntKind.wrap, IntKind.bits, IntKind.signed]

theorem wordOr_uns {k : IntKind} (h : k.signed = false) {a b : Nat} (ha : a < 2 ^ k.bits) (hb : b < 2 ^ k.bits) : wordOr k (a : Int) (b : Int) = ((a ||| b : Nat) : Int) := by
  unfold wordOr
  simp only [BitVec.toNat_or, BitVec.ofInt_natCast, BitVec.toNat_ofNat]
  rw [Nat.mod_eq_of_lt ha, Nat.mod_eq_of_lt hb, wrap_uns h, Nat.mod_eq_of_lt (Nat.or_lt_two_pow ha hb)]
theorem wordAnd_uns {k : IntKind} (h : k.signed = false) {a b : Nat} (ha : a < 2 ^ k.bits) (hb : b < 2 ^ k.bits) : wordAnd k (a : Int) (b : Int) = ((a &&& b : Nat) : Int) := by
  unfold wordAnd
  simp only [BitVec.toNat_and, BitVec.ofInt_natCast, BitVec.toNat_ofNat]
  rw [Nat.mod_eq_of_lt ha, Nat.mod_eq_of_lt hb, wrap_uns h, Nat.mod_eq_of_lt (Nat.and_lt_two_pow _ hb)]
theorem wordXor_uns {k : IntKind} (h : k.signed = false) {a b : Nat} (ha : a < 2 ^ k.bits) (hb : b < 2 ^ k.bits) : wordXor k (a : Int) (b : Int) = ((a ^^^ b : Nat) : Int) := by
  unfold wordXor
  simp only [BitVec.toNat_xor, BitVec.ofInt_natCast, BitVec.toNat_ofNat]
  rw [Nat.mod_eq_of_lt ha, Nat.mod_eq_of_lt hb, wrap_uns h, Nat.mod_eq_of_lt (Nat.xor_lt_two_pow ha hb)]
theorem wordShl_uns {k : IntKind} (h : k.signed = false) (a n : Nat) (hn : n ≤ k.bits) : wordShl k (a : Int) (n : Int) = ((a * 2 ^ n % 2 ^ k.bits : Nat) : Int) := by
  unfold wordShl
  rw [Int.toNat_natCast, Nat.min_eq_left hn, show (a : Int) * 2 ^ n = ((a * 2 ^ n : Nat) : Int) by simp, wrap_uns h]
theorem wordShr_any {k : IntKind} (a n : Nat) (hn : n ≤ k.bits) : wordShr k (a : Int) (n : Int) = ((a / 2 ^ n : Nat) : Int) := by
  unfold wordShr
  rw [Int.toNat_natCast, Nat.min_eq_left hn, show ((2 : Int) ^ n) = ((2 ^ n : Nat) : Int) by simp, Int.fdiv_eq_ediv_of_nonneg _ (Int.natCast_nonneg _)]
  rfl

theorem wordOr_u8 {a b : Nat} (ha : a < 256) (hb : b < 256) : wordOr .u8 (a : Int) (b : Int) = ((a ||| b : Nat) : Int) := wordOr_uns rfl ha hb
theorem wordOr_u32 {a b : Nat} (ha : a < 4294967296) (hb : b < 4294967296) : wordOr .u32 (a : Int) (b : Int) = ((a ||| b : Nat) : Int) := wordOr_uns rfl ha hb
theorem wordOr_u64 {a b : Nat} (ha : a < 18446744073709551616) (hb : b < 18446744073709551616) : wordOr .u64 (a : Int) (b : Int) = ((a ||| b : Nat) : Int) := wordOr_uns rfl ha hb
theorem wordAnd_u8 {a b : Nat} (ha : a < 256) (hb : b < 256) : wordAnd .u8 (a : Int) (b : Int) = ((a &&& b : Nat) : Int) := wordAnd_uns rfl ha hb
theorem wordAnd_u32 {a b : Nat} (ha : a < 4294967296) (hb : b < 4294967296) : wordAnd .u32 (a : Int) (b : Int) = ((a &&& b : Nat) : Int) := wordAnd_uns rfl ha hb
theorem wordAnd_u64 {a b : Nat} (ha : a < 18446744073709551616) (hb : b < 18446744073709551616) : wordAnd .u64 (a : Int) (b : Int) = ((a &&& b : Nat) : Int) := wordAnd_uns rfl ha hb
theorem wordXor_u8 {a b : Nat} (ha : a < 256) (hb : b < 256) : wordXor .u8 (a : Int) (b : Int) = ((a ^^^ b : Nat) : Int) := wordXor_uns rfl ha hb
theorem wordXor_u32 {a b : Nat} (ha : a < 4294967296) (hb : b < 4294967296) : wordXor .u32 (a : Int) (b : Int) = ((a ^^^ b : Nat) : Int) := wordXor_uns rfl ha hb
theorem wordXor_u64 {a b : Nat} (ha : a < 18446744073709551616) (hb : b < 18446744073709551616) : wordXor .u64 (a : Int) (b : Int) = ((a ^^^ b : Nat) : Int) := wordXor_uns rfl ha hb
theorem wordShl_u8 (a n : Nat) (hn : n ≤ 8) : wordShl .u8 (a : Int) (n : Int) = ((a * 2 ^ n % 256 : Nat) : Int) := wordShl_uns rfl a n hn
theorem wordShr_u8 (a n : Nat) (hn : n ≤ 8) : wordShr .u8 (a : Int) (n : Int) = ((a / 2 ^ n : Nat) : Int) := wordShr_any a n hn
theorem wordShl_u32 (a n : Nat) (hn : n ≤ 32) : wordShl .u32 (a : Int) (n : Int) = ((a * 2 ^ n % 4294967296 : Nat) : Int) := wordShl_uns rfl a n hn
theorem wordShr_u32 (a n : Nat) (hn : n ≤ 32) : wordShr .u32 (a : Int) (n : Int) = ((a / 2 ^ n : Nat) : Int) := wordShr_any a n hn
theorem wordShl_u64 (a n : Nat) (hn : n ≤ 64) : wordShl .u64 (a : Int) (n : Int) = ((a * 2 ^ n % 18446744073709551616 : Nat) : Int) := wordShl_uns rfl a n hn
theorem wordShr_u64 (a n : Nat) (hn : n ≤ 64) : wordShr .u64 (a : Int) (n : Int) = ((a / 2 ^ n : Nat) : Int) := wordShr_any a n hn

/-- Bits that do not meet, laid together. -/
theorem or_high {a b m : Nat} (h1 : 2 ^ m ∣ a) (h2 : b < 2 ^ m) : a ||| b = a + b := by
  obtain ⟨c, rfl⟩ := h1
  exact (Nat.two_pow_add_eq_or_of_lt h2 c).symm
theorem or_low {a b m : Nat} (h1 : a < 2 ^ m) (h2 : 2 ^ m ∣ b) : a ||| b = a + b := by rw [Nat.or_comm, or_high h2 h1, Nat.add_comm]
end Go.Proofs.YtffofdfikmpanaaDoor.A

namespace Go.Proofs.YtffofdfikmpanaaDoor.A
set_option linter.unusedVariables false
theorem all_id (l : List V) : all l = l := by cases l <;> exact all_eq _
theorem bind_to {α β : Type} {a : Option α} {v : α} {f : α → Option β} {r : Option β} (h1 : a = some v) (h2 : f v = r) : a.bind f = r := by rw [h1]; exact h2
theorem beqI (a b : Int) : (a == b) = decide (a = b) := by rw [Bool.eq_iff_iff]; simp
theorem lst_of (l : List V) : V.lst? false 1 (V.sl false false 1 l) = some l := by simp [V.lst?]
end Go.Proofs.YtffofdfikmpanaaDoor.A

namespace Go.Proofs.YtffofdfikmpanaaDoor.A
set_option linter.unusedVariables false
set_option linter.unusedSimpArgs false
set_option maxRecDepth 10000

def cutB : List UInt8 → List UInt8 × Option (List UInt8)
  | [] => ([], none)
  | b :: r => if b = 10 then ([], some r) else (b :: (cutB r).1, (cutB r).2)
def trimB (l : List UInt8) : List UInt8 := if l.getLast? = some 13 then l.dropLast else l
def linesN : Nat → List UInt8 → List (List UInt8)
  | 0, l => [l]
  | n + 1, l => match (cutB l).2 with
    | some r => trimB (cutB l).1 :: linesN n r
    | none => [(cutB l).1]
/-- A text's lines. -/
def linesB (l : List UInt8) : List (List UInt8) := linesN l.length l

theorem isN_byte (m : Nat) (hm : m < 256) (b : UInt8) : (byteV b).isN (m : Int) = decide (b = UInt8.ofNat m) := by
  have : (b.toNat : Int) = (m : Int) ↔ b = UInt8.ofNat m := by
    constructor
    · intro h
      apply UInt8.toNat_inj.1
      rw [UInt8.toNat_ofNat']
      have : b.toNat = m := by omega
      rw [this]
      exact (Nat.mod_eq_of_lt hm).symm
    · intro h
      have := congrArg UInt8.toNat h
      rw [UInt8.toNat_ofNat'] at this
      omega
  show decide ((b.toNat : Int) = (m : Int)) = _
  exact decide_eq_decide.2 this

theorem cutV_bytes : ∀ l : List UInt8, cutV (bytesV l) = (bytesV (cutB l).1, (cutB l).2.map bytesV)
  | [] => rfl
  | b :: r => by
    have h := cutV_bytes r
    show cutV (byteV b :: bytesV r) = _
    unfold cutV cutB
    rw [show (10 : Int) = ((10 : Nat) : Int) from rfl, isN_byte 10 (by omega) b, show UInt8.ofNat 10 = 10 from rfl, h]
    by_cases hb : b = 10
    · rw [if_pos (decide_eq_true hb), if_pos hb]; rfl
    · rw [if_neg (by simpa using hb), if_neg hb]; rfl

theorem trimV_bytes (l : List UInt8) : trimV (bytesV l) = bytesV (trimB l) := by
  unfold trimV trimB
  have hl : (bytesV l).getLast? = l.getLast?.map byteV := by simp [bytesV, List.getLast?_map]
  rw [hl]
  cases h : l.getLast? with
  | none => simp
  | some b =>
    simp only [Option.map_some]
    rw [show (13 : Int) = ((13 : Nat) : Int) from rfl, isN_byte 13 (by omega) b, show UInt8.ofNat 13 = 13 from rfl]
    by_cases hb : b = 13
    · rw [if_pos (decide_eq_true hb), if_pos (by rw [hb])]
      simp [bytesV, List.map_dropLast]
    · rw [if_neg (by simpa using hb), if_neg (by simpa using hb)]

theorem eachL_bytes : ∀ (n : Nat) (l : List UInt8), eachL n (bytesV l) = (linesN n l).map bytesV
  | 0, l => rfl
  | n + 1, l => by
    simp only [eachL, linesN, cutV_bytes]
    cases (cutB l).2 with
    | none => rfl
    | some r =>
      simp only [Option.map_some, List.map_cons, trimV_bytes]
      rw [eachL_bytes n r]

/-- Lines as what is told of them. -/
def itemsV (l : List (List UInt8)) : List (List V) := l.map fun x => [V.sl false false 1 (bytesV x)]
theorem eachItems_bytes (l : List UInt8) (h : l.length ≤ 4611686018427387904) : eachItems false (bytesV l) = some (itemsV (linesB l)) := by
  unfold eachItems itemsV linesB
  have hu : (bytesV l).all V.isU8 = true := by
    rw [List.all_eq_true]
    intro v hv
    obtain ⟨b, _, rfl⟩ := List.mem_map.1 hv
    have := b.toNat_lt
    show (decide (0 ≤ (b.toNat : Int)) && decide ((b.toNat : Int) < 256)) = true
    simp; omega
  rw [if_pos (by rw [hu]; simpa using h), eachL_bytes, bytesV_length]
  simp

theorem cutB_len : ∀ l : List UInt8, ((cutB l).2 = none → (cutB l).1 = l) ∧ ∀ r, (cutB l).2 = some r → (cutB l).1.length + 1 + r.length = l.length
  | [] => ⟨fun _ => rfl, fun r h => by cases h⟩
  | b :: r => by
    obtain ⟨h1, h2⟩ := cutB_len r
    unfold cutB
    by_cases hb : b = 10
    · rw [if_pos hb]
      exact ⟨fun h => (by cases h), fun r' h => (by cases h; simp; omega)⟩
    · rw [if_neg hb]
      refine ⟨fun h => by rw [h1 h], fun r' h => ?_⟩
      have := h2 r' h
      simp; omega

theorem trimB_len (l : List UInt8) : (trimB l).length ≤ l.length := by
  unfold trimB; split
  · simp
  · exact Nat.le_refl _

/-- How long lines are together. -/
def sumL (l : List (List UInt8)) : Nat := (l.map List.length).sum
theorem sumL_cons (x : List UInt8) (l : List (List UInt8)) : sumL (x :: l) = x.length + sumL l := by simp [sumL]

theorem sum_le (x : List UInt8) : ∀ l : List (List UInt8), x ∈ l → x.length ≤ sumL l
  | [], h => by cases h
  | y :: l, h => by
    rw [sumL_cons]
    rcases List.mem_cons.1 h with rfl | h
    · omega
    · have := sum_le x l h; omega

theorem linesN_size : ∀ (n : Nat) (l : List UInt8), sumL (linesN n l) + (linesN n l).length ≤ l.length + 1 ∧ linesN n l ≠ []
  | 0, l => by simp [linesN, sumL]
  | n + 1, l => by
    obtain ⟨h1, h2⟩ := cutB_len l
    unfold linesN
    cases hr : (cutB l).2 with
    | none =>
      dsimp only
      rw [h1 hr]; simp [sumL]
    | some r =>
      dsimp only
      have := h2 r hr
      have := linesN_size n r
      have := trimB_len (cutB l).1
      refine ⟨?_, by simp⟩
      rw [sumL_cons, List.length_cons]
      omega
theorem lines_size (l : List UInt8) : sumL (linesB l) + (linesB l).length ≤ l.length + 1 := (linesN_size _ l).1
theorem lines_ne (l : List UInt8) : linesB l ≠ [] := (linesN_size _ l).2

/-- Lines, joined. -/
def joinB (by' : List UInt8) : List (List UInt8) → List UInt8
  | [] => []
  | x :: r => x ++ r.flatMap fun y => by' ++ y
theorem joinB_len (by' : List UInt8) (l : List (List UInt8)) : (joinB by' l).length ≤ sumL l + by'.length * l.length := by
  have h : ∀ r : List (List UInt8), (r.flatMap fun y => by' ++ y).length = sumL r + by'.length * r.length := by
    intro r
    induction r with
    | nil => rfl
    | cons y r ih =>
      rw [List.flatMap_cons, List.length_append, ih, List.length_append, sumL_cons, List.length_cons, Nat.mul_add]
      omega
  cases l with
  | nil => simp [joinB]
  | cons x r =>
    simp only [joinB, List.length_append, h, sumL_cons, List.length_cons, Nat.mul_add]
    omega

theorem cutB_no10 : ∀ {x : List UInt8}, (10 : UInt8) ∉ x → cutB x = (x, none)
  | [], _ => rfl
  | b :: x, h => by
    simp only [List.mem_cons, not_or] at h
    unfold cutB
    rw [if_neg (Ne.symm h.1), cutB_no10 h.2]
theorem cutB_at : ∀ {x : List UInt8} (r : List UInt8), (10 : UInt8) ∉ x → cutB (x ++ 10 :: r) = (x, some r)
  | [], r, _ => by simp [cutB]
  | b :: x, r, h => by
    simp only [List.mem_cons, not_or] at h
    rw [List.cons_append]
    unfold cutB
    rw [if_neg (Ne.symm h.1), cutB_at r h.2]

theorem linesN_no10 : ∀ (n : Nat) (l : List UInt8), l.length ≤ n → ∀ x ∈ linesN n l, (10 : UInt8) ∉ x
  | 0, l, hn, x, hx => by
    obtain rfl : l = [] := List.eq_nil_of_length_eq_zero (by omega)
    simp only [linesN, List.mem_singleton] at hx
    subst hx; simp
  | n + 1, l, hn, x, hx => by
    have key : ∀ l : List UInt8, (10 : UInt8) ∉ (cutB l).1 := by
      intro l
      induction l with
      | nil => simp [cutB]
      | cons b r ih =>
        unfold cutB
        by_cases hb : b = 10
        · rw [if_pos hb]; simp
        · rw [if_neg hb]
          simp only [List.mem_cons, not_or]
          exact ⟨Ne.symm hb, ih⟩
    unfold linesN at hx
    cases hr : (cutB l).2 with
    | none =>
      rw [hr] at hx
      simp only [List.mem_singleton] at hx
      subst hx; exact key l
    | some r =>
      rw [hr] at hx
      rcases List.mem_cons.1 hx with rfl | hx
      · intro hm
        unfold trimB at hm
        split at hm
        · exact key l ((List.dropLast_sublist _).mem hm)
        · exact key l hm
      · have := (cutB_len l).2 r hr
        exact linesN_no10 n r (by omega) x hx
theorem lines_no10 (l : List UInt8) : ∀ x ∈ linesB l, (10 : UInt8) ∉ x := linesN_no10 _ l (Nat.le_refl _)

theorem trimB_13 (x : List UInt8) : trimB (x ++ [13]) = x := by simp [trimB]
theorem trimB_no {x : List UInt8} (h : x.getLast? ≠ some 13) : trimB x = x := by simp [trimB, h]

/-- Lines that are joined with ends of two bytes, or of one where none ends with the byte 13, are the lines again. -/
theorem linesN_join (two : Bool) : ∀ (ls : List (List UInt8)) (n : Nat), ls ≠ [] → (∀ x ∈ ls, (10 : UInt8) ∉ x) → (two = false → ∀ x ∈ ls, x.getLast? ≠ some 13) → (joinB (if two then [13, 10] else [10]) ls).length ≤ n →
    linesN n (joinB (if two then [13, 10] else [10]) ls) = ls
  | [], _, h, _, _, _ => absurd rfl h
  | [x], n, _, h10, _, hn => by
    have hx := h10 x (by simp)
    have e : joinB (if two then [13, 10] else [10]) [x] = x := by simp [joinB]
    rw [e] at hn ⊢
    cases n with
    | zero => rfl
    | succ n => simp only [linesN, cutB_no10 hx]
  | x :: y :: r, n, _, h10, h13, hn => by
    have hx := h10 x (by simp)
    have e : joinB (if two then [13, 10] else [10]) (x :: y :: r) = (if two then x ++ [13] else x) ++ 10 :: joinB (if two then [13, 10] else [10]) (y :: r) := by
      cases two <;> simp [joinB]
    have hx2 : (10 : UInt8) ∉ (if two then x ++ [13] else x) := by
      cases two with
      | false => exact hx
      | true => simp only [if_true, List.mem_append, List.mem_singleton, not_or]; exact ⟨hx, by decide⟩
    rw [e] at hn ⊢
    simp only [List.length_append, List.length_cons] at hn
    obtain ⟨n, rfl⟩ : ∃ m, n = m + 1 := ⟨n - 1, by omega⟩
    unfold linesN
    rw [cutB_at _ hx2]
    dsimp only
    rw [linesN_join two (y :: r) n (by simp) (fun z hz => h10 z (by simp [hz])) (fun h z hz => h13 h z (by simp [hz])) (by omega)]
    congr 1
    cases two with
    | true => exact trimB_13 x
    | false => exact trimB_no (h13 rfl x (by simp))

def canonB (l : List UInt8) : List UInt8 := joinB [13, 10] (linesB l)
def plainB (l : List UInt8) : List UInt8 := joinB [10] (linesB l)
theorem lines_canon (l : List UInt8) : linesB (canonB l) = linesB l := linesN_join true (linesB l) _ (lines_ne l) (lines_no10 l) (fun h => by cases h) (Nat.le_refl _)
theorem lines_plain (l : List UInt8) (h : ∀ x ∈ linesB l, x.getLast? ≠ some 13) : linesB (plainB l) = linesB l := linesN_join false (linesB l) _ (lines_ne l) (lines_no10 l) (fun _ => h) (Nat.le_refl _)
theorem canon_len (l : List UInt8) : (canonB l).length ≤ 2 * l.length + 2 := by
  have := joinB_len [13, 10] (linesB l)
  have := lines_size l
  simp only [canonB, List.length_cons, List.length_nil] at *
  omega
theorem plain_len (l : List UInt8) : (plainB l).length ≤ l.length + 1 := by
  have := joinB_len [10] (linesB l)
  have := lines_size l
  simp only [plainB, List.length_cons, List.length_nil] at *
  omega

/-! ### The program's texts -/

theorem lines_eq (l : List UInt8) (h : l.length ≤ 1000000000) : F_text_Lines (bytesV l) = some ((linesB l).map fun x => V.sl false false 1 (bytesV x)) := by
  have hz := lines_size l
  unfold F_text_Lines F_text_each
  simp only [Option.bind_some]
  rw [eachItems_bytes l (by omega)]
  simp only [Option.bind_some]
  generalize linesB l = ls at hz
  refine (loopO_run (ι := List (List UInt8) × List V) (fun i => (itemsV i.1, i.2)) (fun i => i.2 ++ i.1.map fun x => V.sl false false 1 (bytesV x)) (fun i => sumL i.1 + i.1.length ≤ l.length + 1 ∧ i.2.length + i.1.length ≤ l.length + 1) (fun i => i.1.length) ?_ (ls, []) ⟨hz, by simp; omega⟩).trans (by simp)
  rintro ⟨r, acc⟩ ⟨h1, h2⟩
  cases r with
  | nil => right; simp [itemsV, all_id]
  | cons x r =>
    left
    rw [sumL_cons, List.length_cons] at h1
    simp only [List.length_cons] at h2
    refine ⟨(r, acc ++ [V.sl false false 1 (bytesV x)]), ?_, ⟨by simp only; omega, by simp only [List.length_append, List.length_cons, List.length_nil]; omega⟩, by simp, by simp⟩
    simp only [itemsV, List.map_cons, List.getElem?_cons_zero, Option.bind_some, lst_of, List.length_cons, List.length_nil, Nat.zero_add, if_true, bytesV_length, all_id]
    rw [if_pos (by omega)]
    simp only [Option.bind_some]
    rw [if_pos (by omega)]

/-- Lines, joined behind a text. -/
def joinF (by' : List UInt8) : List (List UInt8) → List UInt8 → Bool → List UInt8
  | [], acc, _ => acc
  | x :: r, acc, first => joinF by' r (acc ++ (if first then x else by' ++ x)) false
theorem joinF_false (by' : List UInt8) : ∀ (r : List (List UInt8)) (acc : List UInt8), joinF by' r acc false = acc ++ r.flatMap fun y => by' ++ y
  | [], acc => by simp [joinF]
  | x :: r, acc => by
    rw [joinF, joinF_false by' r]
    simp
theorem joinF_true (by' : List UInt8) (l : List (List UInt8)) : joinF by' l [] true = joinB by' l := by
  cases l with
  | nil => rfl
  | cons x r => rw [joinF, joinF_false]; simp [joinB]

theorem join_eq (l by' : List UInt8) (h : l.length ≤ 500000000) (hb : by'.length ≤ 2) : F_text_join__text_asIs (bytesV l, by', PUnit.unit) = some (bytesV (joinB by' (linesB l))) := by
  have hz := lines_size l
  have hne := lines_ne l
  unfold F_text_join__text_asIs F_text_each
  simp only [Option.bind_some]
  rw [eachItems_bytes l (by omega)]
  simp only [Option.bind_some]
  rw [← joinF_true]
  generalize linesB l = ls at hz hne
  refine (loopO_run (ι := List (List UInt8) × List UInt8 × Bool) (fun i => (itemsV i.1, by', PUnit.unit, bytesV i.2.1, i.2.2)) (fun i => bytesV (joinF by' i.1 i.2.1 i.2.2))
    (fun i => i.2.1.length + sumL i.1 + 2 * i.1.length ≤ 2 * l.length + 2) (fun i => i.1.length) ?_ (ls, [], true) (by simp; omega))
  rintro ⟨r, acc, first⟩ h1
  simp only at h1
  cases r with
  | nil => right; simp only [itemsV, List.map_nil, all_id, joinF]
  | cons x r =>
    left
    rw [sumL_cons, List.length_cons] at h1
    refine ⟨(r, acc ++ (if first then x else by' ++ x), false), ?_, by cases first <;> simp <;> omega, by simp, rfl⟩
    simp only [itemsV, List.map_cons, List.getElem?_cons_zero, Option.bind_some, lst_of, List.length_cons, List.length_nil, Nat.zero_add, if_true, bytesV_length, all_id]
    unfold F_text_asIs
    cases first with
    | true =>
      simp only [Bool.not_true, Bool.false_eq_true, if_false, Option.bind_some, if_true, bytesV_length]
      rw [if_pos (by omega), bytesV_append]
    | false =>
      simp only [Bool.not_false, if_true, Bool.false_eq_true, if_false, Option.bind_some]
      rw [if_pos (by omega)]
      simp only [Option.bind_some, List.length_append, bytesV_length]
      rw [if_pos (by omega), bytesV_append, bytesV_append, List.append_assoc]

theorem canon_eq (l : List UInt8) (h : l.length ≤ 500000000) : F_text_Canon (bytesV l) = some (bytesV (canonB l)) := by
  unfold F_text_Canon
  rw [show by8 [13, 10] = [13, 10] from rfl, join_eq l _ h (by simp)]; rfl
end Go.Proofs.YtffofdfikmpanaaDoor.A

namespace Go.Proofs.YtffofdfikmpanaaDoor.A
set_option linter.unusedVariables false
set_option linter.unusedSimpArgs false
set_option maxRecDepth 10000

/-- A line without blanks at its end. -/
def trimEnd (x : List UInt8) : List UInt8 := (x.reverse.dropWhile fun b => decide (b = 32) || decide (b = 9)).reverse
theorem trimEnd_len (x : List UInt8) : (trimEnd x).length ≤ x.length := by
  unfold trimEnd
  rw [List.length_reverse]
  have := (List.dropWhile_suffix (l := x.reverse) fun b => decide (b = 32) || decide (b = 9)).length_le
  rwa [List.length_reverse] at this
theorem trimRV_bytes (x : List UInt8) : trimRV [32, 9] (bytesV x) = bytesV (trimEnd x) := by
  unfold trimRV trimEnd
  have key : ∀ l : List UInt8, ((bytesV l).dropWhile fun v => [32, 9].any fun (c : UInt8) => v.isN c.toNat) = bytesV (l.dropWhile fun b => decide (b = 32) || decide (b = 9)) := by
    intro l
    induction l with
    | nil => rfl
    | cons b l ih =>
      have hc : ([32, 9].any fun (c : UInt8) => (byteV b).isN c.toNat) = (decide (b = 32) || decide (b = 9)) := by
        simp only [List.any_cons, List.any_nil, Bool.or_false]
        rw [show (((32 : UInt8).toNat : Nat) : Int) = ((32 : Nat) : Int) from rfl, show (((9 : UInt8).toNat : Nat) : Int) = ((9 : Nat) : Int) from rfl, isN_byte 32 (by omega), isN_byte 9 (by omega)]
        rfl
      show List.dropWhile _ (byteV b :: bytesV l) = _
      rw [List.dropWhile_cons, List.dropWhile_cons, hc]
      split
      · exact ih
      · rfl
  have hr : (bytesV x).reverse = bytesV x.reverse := by simp [bytesV]
  rw [hr, key]
  simp [bytesV]

theorem all_u8 (l : List UInt8) : List.all (bytesV l) V.isU8 = true := by
  rw [List.all_eq_true]
  intro v hv
  obtain ⟨b, _, rfl⟩ := List.mem_map.1 hv
  have := b.toNat_lt
  show (decide (0 ≤ (b.toNat : Int)) && decide ((b.toNat : Int) < 256)) = true
  simp; omega

theorem trim_eq (x : List UInt8) (h : x.length ≤ 2000000000) : F_text_Trim (bytesV x) = some (bytesV (trimEnd x)) := by
  have hl := trimEnd_len x
  unfold F_text_Trim
  rw [show by8 [32, 9] = [32, 9] from rfl, trimRV_bytes, all_u8, bytesV_length, decide_eq_true (p := x.length ≤ 4611686018427387904) (by omega)]
  rw [if_pos (by decide)]
  simp only [Option.bind_some, bytesV_length]
  rw [if_pos (by omega)]; rfl

theorem sumL_trim (l : List (List UInt8)) : sumL (l.map trimEnd) ≤ sumL l := by
  induction l with
  | nil => exact Nat.le_refl _
  | cons x l ih =>
    have := trimEnd_len x
    rw [List.map_cons, sumL_cons, sumL_cons]; omega

theorem joinT_eq (l by' : List UInt8) (h : l.length ≤ 500000000) (hb : by'.length ≤ 2) : F_text_join__text_Trim (bytesV l, by', PUnit.unit) = some (bytesV (joinB by' ((linesB l).map trimEnd))) := by
  have hz := lines_size l
  unfold F_text_join__text_Trim F_text_each
  simp only [Option.bind_some]
  rw [eachItems_bytes l (by omega)]
  simp only [Option.bind_some]
  rw [← joinF_true]
  generalize linesB l = ls at hz
  refine (loopO_run (ι := List (List UInt8) × List UInt8 × Bool) (fun i => (itemsV i.1, by', PUnit.unit, bytesV i.2.1, i.2.2)) (fun i => bytesV (joinF by' (i.1.map trimEnd) i.2.1 i.2.2))
    (fun i => i.2.1.length + sumL i.1 + 2 * i.1.length ≤ 2 * l.length + 2) (fun i => i.1.length) ?_ (ls, [], true) (by simp; omega))
  rintro ⟨r, acc, first⟩ h1
  simp only at h1
  cases r with
  | nil => right; simp only [itemsV, List.map_nil, all_id, joinF]
  | cons x r =>
    left
    have ht := trimEnd_len x
    rw [sumL_cons, List.length_cons] at h1
    refine ⟨(r, acc ++ (if first then trimEnd x else by' ++ trimEnd x), false), ?_, by cases first <;> simp <;> omega, by simp, rfl⟩
    simp only [itemsV, List.map_cons, List.getElem?_cons_zero, Option.bind_some, lst_of, List.length_cons, List.length_nil, Nat.zero_add, if_true, bytesV_length, all_id]
    rw [trim_eq x (by omega)]
    cases first with
    | true =>
      simp only [Bool.not_true, Bool.false_eq_true, if_false, Option.bind_some, if_true, bytesV_length]
      rw [if_pos (by omega), bytesV_append]
    | false =>
      simp only [Bool.not_false, if_true, Bool.false_eq_true, if_false, Option.bind_some]
      rw [if_pos (by omega)]
      simp only [Option.bind_some, List.length_append, bytesV_length]
      rw [if_pos (by omega), bytesV_append, bytesV_append, List.append_assoc]

def signedB (l : List UInt8) : List UInt8 := joinB [13, 10] ((linesB l).map trimEnd)
theorem signed_eq (l : List UInt8) (h : l.length ≤ 500000000) : F_text_Signed (bytesV l) = some (bytesV (signedB l)) := by
  unfold F_text_Signed
  rw [show by8 [13, 10] = [13, 10] from rfl, joinT_eq l _ h (by simp)]; rfl

theorem alive15 : F_affiantlaw15_alive PUnit.unit = some true := by
  have e1 := canon_eq [97, 10, 98] (by decide)
  have e2 := lines_eq [] (by decide)
  have e3 := signed_eq [97, 32, 13, 10, 98, 9] (by decide)
  unfold F_affiantlaw15_alive
  refine (congrArg (Option.bind · _) (a₂ := some true) (bind_to e1 ?_)).trans rfl
  rw [all_id, unbytes_bytesV]
  simp only [Option.bind_some]
  rw [if_pos (by decide +kernel)]
  refine bind_to e2 ?_
  rw [if_pos (by decide +kernel)]
  refine bind_to e3 ?_
  rw [all_id, unbytes_bytesV]
  exact congrArg some (by decide +kernel)

theorem cutB_count : ∀ l : List UInt8, ((cutB l).2 = none → l.count 10 = 0) ∧ ∀ r, (cutB l).2 = some r → l.count 10 = 1 + r.count 10
  | [] => ⟨fun _ => rfl, fun r h => by cases h⟩
  | b :: r => by
    obtain ⟨h1, h2⟩ := cutB_count r
    unfold cutB
    by_cases hb : b = 10
    · rw [if_pos hb]
      exact ⟨fun h => (by cases h), fun r' h => (by cases h; subst hb; rw [List.count_cons_self]; omega)⟩
    · rw [if_neg hb]
      have hc : (b :: r).count 10 = r.count 10 := List.count_cons_of_ne hb
      exact ⟨fun h => by rw [hc]; exact h1 h, fun r' h => by rw [hc]; exact h2 r' h⟩
theorem linesN_count : ∀ (n : Nat) (l : List UInt8), l.length ≤ n → (linesN n l).length = 1 + l.count 10
  | 0, l, h => by
    obtain rfl : l = [] := List.eq_nil_of_length_eq_zero (by omega)
    rfl
  | n + 1, l, h => by
    obtain ⟨h1, h2⟩ := cutB_count l
    unfold linesN
    cases hr : (cutB l).2 with
    | none => simp [h1 hr]
    | some r =>
      have := (cutB_len l).2 r hr
      dsimp only
      rw [List.length_cons, linesN_count n r (by omega), h2 r hr]; omega

theorem partsV_get (ls : List (List UInt8)) (i : Nat) (x : List UInt8) (h : ls[i]? = some x) : (ls.map fun x => V.sl false false 1 (bytesV x))[i]? = some (V.sl false false 1 (bytesV x)) := by simp [h]

theorem same15 (ls : List (List UInt8)) (h : ls.length ≤ 1000000) : F_affiantref15_Same (ls.map fun x => V.sl false false 1 (bytesV x), ls.map fun x => V.sl false false 1 (bytesV x)) = some true := by
  unfold F_affiantref15_Same
  simp only [bne_self_eq_false, Bool.false_eq_true, if_false]
  have hlen : len (ls.map fun x => V.sl false false 1 (bytesV x)) = (ls.length : Int) := by simp [len]
  refine loopO_run (ι := Nat) (fun i => (ls.map fun x => V.sl false false 1 (bytesV x), ls.map fun x => V.sl false false 1 (bytesV x), false, (i : Int))) (fun _ => true) (fun i => i ≤ ls.length) (fun i => ls.length - i) ?_ 0 (Nat.zero_le _)
  intro i hi
  dsimp only
  simp only [decide_eq_true_eq, hlen]
  by_cases hc : i < ls.length
  · left
    refine ⟨i + 1, ?_, hc, by omega, by trivial⟩
    have hg := partsV_get ls i ls[i] (List.getElem?_eq_getElem hc)
    rw [if_pos (by omega), if_pos (by omega), Int.toNat_natCast, hg]
    simp only [Option.bind_some, lst_of, unbytes_bytesV]
    rw [if_pos (by omega), if_neg (by simp), w64_in (by omega) (by omega)]; rfl
  · right
    rw [if_neg (by omega)]

theorem law_TextSame (b : List UInt8) : F_affiantlaw15_TextSame (bytesV b) = some true := by
  have al := alive15
  unfold F_affiantlaw15_TextSame
  simp only [len_bytesV, decide_eq_true_eq]
  by_cases hb : b.length ≤ 300
  · rw [if_neg (by omega), lines_eq b (by omega)]
    simp only [Option.bind_some]
    have hn := lines_size b
    have hno := lines_no10 b
    have hcnt : (linesB b).length = 1 + b.count 10 := linesN_count _ b (Nat.le_refl _)
    have hlv : ∀ x ∈ linesB b, x.length ≤ 1000 := fun x hx => by
      have := sum_le x _ hx; omega
    have hcan := canon_len b
    have hlen : len ((linesB b).map fun x => V.sl false false 1 (bytesV x)) = ((linesB b).length : Int) := by simp [len]
    refine loopO_run (ι := Nat) (fun i => (bytesV b, ((1 + (b.take i).count 10 : Nat) : Int), (i : Int))) (fun _ => true) (fun i => i ≤ b.length) (fun i => b.length - i) ?_ 0 (Nat.zero_le _)
    intro i hi
    dsimp only
    simp only [len_bytesV, decide_eq_true_eq]
    by_cases hc : i < b.length
    · left
      refine ⟨i + 1, ?_, hc, by omega, by trivial⟩
      have hcl : (b.take i).count 10 ≤ i := Nat.le_trans List.count_le_length (by simp; omega)
      rw [if_pos (by omega), if_pos (by omega), Int.toNat_natCast, bytesV_getD hc]
      simp only [Option.bind_some]
      have hv : V.int? .u8 (byteV (b.getD i 0)) = some ((b.getD i 0).toNat : Int) := by simp [V.int?, byteV]
      rw [hv]
      simp only [Option.bind_some, beq_iff_eq]
      have ht : (b.take (i + 1)).count 10 = (b.take i).count 10 + if b.getD i 0 = 10 then 1 else 0 := by
        rw [List.take_add_one, List.getElem?_eq_getElem hc, Option.toList_some, List.count_append, List.getD_eq_getElem?_getD, List.getElem?_eq_getElem hc, Option.getD_some, List.count_cons, List.count_nil]
        simp
      have he : ((b.getD i 0).toNat : Int) = 10 ↔ b.getD i 0 = 10 := by
        constructor
        · intro h
          apply UInt8.toNat_inj.1
          have : (b.getD i 0).toNat = 10 := by omega
          rw [this]; rfl
        · intro h; rw [h]; rfl
      by_cases h10 : b.getD i 0 = 10
      · rw [if_pos (he.2 h10)]
        simp only [Option.bind_some]
        rw [ht, if_pos h10, w64_in (by omega) (by omega), w64_in (by omega) (by omega)]
        simp only [Option.some.injEq, Sum.inl.injEq, Prod.mk.injEq, true_and]
        omega
      · rw [if_neg fun h => h10 (he.1 h)]
        simp only [Option.bind_some]
        rw [ht, if_neg h10, w64_in (by omega) (by omega)]
        rfl
    · right
      have hi : i = b.length := by omega
      subst hi
      rw [if_neg (by omega), List.take_length, ← hcnt]
      refine (congrArg (Option.bind · _) (loopO_run (ι := Nat) (fun i => (false, (linesB b).map fun x => V.sl false false 1 (bytesV x), (i : Int))) (fun _ => true) (fun i => i ≤ (linesB b).length) (fun i => (linesB b).length - i) ?_ 0 (Nat.zero_le _))).trans rfl
      intro i hi
      dsimp only
      rw [hlen]
      simp only [decide_eq_true_eq]
      by_cases hc : i < (linesB b).length
      · left
        have hg := partsV_get (linesB b) i (linesB b)[i] (List.getElem?_eq_getElem hc)
        have hmem : (linesB b)[i] ∈ linesB b := List.getElem_mem hc
        have hx := hlv _ hmem
        have h10 := hno _ hmem
        refine ⟨i + 1, ?_, hc, by omega, by trivial⟩
        rw [if_pos (by omega)]
        generalize (linesB b)[i] = x at hg hx h10
        refine (loopO_run (ι := Nat) (fun k => (false, (linesB b).map fun x => V.sl false false 1 (bytesV x), (i : Int), (k : Int))) (fun _ => Sum.inl (false, (linesB b).map fun x => V.sl false false 1 (bytesV x), ((i + 1 : Nat) : Int))) (fun k => k ≤ x.length) (fun k => x.length - k) ?_ 0 (Nat.zero_le _))
        intro k hk
        dsimp only
        have hcell : (V.cells (V.sl false false 1 (bytesV x)))[0]? = some (V.sl false false 1 (bytesV x)) := rfl
        rw [hlen, if_pos (by omega), Nat.zero_add, Int.toNat_natCast, hg]
        simp only [Option.bind_some, hcell, lst_of, len_bytesV, decide_eq_true_eq]
        by_cases hkx : k < x.length
        · left
          refine ⟨k + 1, ?_, hkx, by omega, by trivial⟩
          rw [if_pos (by omega), if_pos (by omega), if_pos (by omega), Int.toNat_natCast, bytesV_getD hkx]
          simp only [Option.bind_some]
          have hv : V.int? .u8 (byteV (x.getD k 0)) = some ((x.getD k 0).toNat : Int) := by simp [V.int?, byteV]
          rw [hv]
          simp only [Option.bind_some, beq_iff_eq]
          have hne : ¬ ((x.getD k 0).toNat : Int) = 10 := fun h => by
            have : x.getD k 0 = 10 := by
              apply UInt8.toNat_inj.1
              have : (x.getD k 0).toNat = 10 := by omega
              rw [this]; rfl
            apply h10
            rw [← this, List.getD_eq_getElem?_getD, List.getElem?_eq_getElem hkx]
            exact List.getElem_mem hkx
          rw [if_neg hne, w64_in (by omega) (by omega)]; rfl
        · right
          rw [if_neg (by omega), w64_in (by omega) (by omega)]; rfl
      · right
        rw [if_neg (by omega)]
        refine (congrArg (Option.bind · _) (a₂ := some true) ?_).trans rfl
        refine (congrArg (Option.bind · _) (a₂ := some true) ?_).trans rfl
        refine bind_to al ?_
        rw [if_pos rfl, if_pos (by simp)]
        refine bind_to (canon_eq b (by omega)) (bind_to (lines_eq (canonB b) (by omega)) ?_)
        rw [all_id, all_id, lines_canon]
        exact bind_to (same15 (linesB b) (by omega)) rfl
  · rw [if_pos (by omega), al]; rfl
end Go.Proofs.YtffofdfikmpanaaDoor.A

namespace Go.Proofs.YtffofdfikmpanaaDoor.A
theorem plain_eq (l : List UInt8) (h : l.length ≤ 500000000) : F_text_Plain (bytesV l) = some (bytesV (plainB l)) := by
  unfold F_text_Plain
  rw [show by8 [10] = [10] from rfl, join_eq l _ h (by simp)]; rfl
end Go.Proofs.YtffofdfikmpanaaDoor.A

namespace Go.Proofs.YtffofdfikmpanaaDoor.A
set_option linter.unusedVariables false
set_option linter.unusedSimpArgs false
set_option maxRecDepth 10000

def lnV (l : List (List UInt8)) : List V := l.map fun x => V.sl false false 1 (bytesV x)
theorem lnV_get {ls : List (List UInt8)} {i : Nat} {x : List UInt8} (h : ls[i]? = some x) : (lnV ls)[i]? = some (V.sl false false 1 (bytesV x)) := by simp [lnV, h]
theorem len_lnV (ls : List (List UInt8)) : len (lnV ls) = (ls.length : Int) := by simp [len, lnV]
theorem lnV_append (a b : List (List UInt8)) : lnV (a ++ b) = lnV a ++ lnV b := by simp [lnV]
theorem lnV_length (ls : List (List UInt8)) : (lnV ls).length = ls.length := by simp [lnV]

/-- Lines, byte by byte. -/
def refL (cur : List UInt8) : List UInt8 → List (List UInt8)
  | [] => [cur]
  | b :: r => if b = 10 then trimB cur :: refL [] r else refL (cur ++ [b]) r
theorem refL_cut : ∀ (l cur : List UInt8), refL cur l = match (cutB l).2 with | none => [cur ++ (cutB l).1] | some r => trimB (cur ++ (cutB l).1) :: refL [] r
  | [], cur => by simp [refL, cutB]
  | b :: r, cur => by
    show (if b = 10 then trimB cur :: refL [] r else refL (cur ++ [b]) r) =
      match (if b = 10 then ([], some r) else (b :: (cutB r).1, (cutB r).2) : List UInt8 × Option (List UInt8)).2 with
        | none => [cur ++ (if b = 10 then ([], some r) else (b :: (cutB r).1, (cutB r).2) : List UInt8 × Option (List UInt8)).1]
        | some r' => trimB (cur ++ (if b = 10 then ([], some r) else (b :: (cutB r).1, (cutB r).2) : List UInt8 × Option (List UInt8)).1) :: refL [] r'
    by_cases hb : b = 10
    · rw [if_pos hb, if_pos hb, List.append_nil]
    · rw [if_neg hb, if_neg hb, refL_cut r]
      cases (cutB r).2 <;> simp
theorem refL_lines : ∀ (n : Nat) (l : List UInt8), l.length ≤ n → refL [] l = linesN n l
  | 0, l, h => by
    obtain rfl : l = [] := List.eq_nil_of_length_eq_zero (by omega)
    rfl
  | n + 1, l, h => by
    rw [refL_cut]
    unfold linesN
    cases hr : (cutB l).2 with
    | none => simp
    | some r =>
      have := (cutB_len l).2 r hr
      dsimp only
      rw [refL_lines n r (by omega)]; rfl

theorem byte_val (b : UInt8) : V.int? .u8 (byteV b) = some (b.toNat : Int) := by simp [V.int?, byteV]
theorem byte_is (b : UInt8) (m : Nat) (hm : m < 256) : ((b.toNat : Int) = (m : Int)) ↔ b = UInt8.ofNat m := by
  constructor
  · intro h
    apply UInt8.toNat_inj.1
    rw [UInt8.toNat_ofNat']
    have : b.toNat = m := by omega
    rw [this]
    exact (Nat.mod_eq_of_lt hm).symm
  · intro h
    have := congrArg UInt8.toNat h
    rw [UInt8.toNat_ofNat'] at this
    omega

theorem byte32 (b : UInt8) : ((b.toNat : Int) = 32) ↔ b = 32 := byte_is b 32 (by omega)
theorem byte9 (b : UInt8) : ((b.toNat : Int) = 9) ↔ b = 9 := byte_is b 9 (by omega)
theorem byte10 (b : UInt8) : ((b.toNat : Int) = 10) ↔ b = 10 := byte_is b 10 (by omega)
theorem byte13 (b : UInt8) : ((b.toNat : Int) = 13) ↔ b = 13 := byte_is b 13 (by omega)

theorem trimEnd_snoc (y : List UInt8) (b : UInt8) : trimEnd (y ++ [b]) = if b = 32 ∨ b = 9 then trimEnd y else y ++ [b] := by
  unfold trimEnd
  rw [List.reverse_append, List.reverse_singleton, List.singleton_append, List.dropWhile_cons]
  by_cases h : b = 32 ∨ b = 9
  · rw [if_pos (by simpa using h), if_pos h]
  · rw [if_neg (by simpa using h), if_neg h]; simp

theorem ref_trim_eq (x : List UInt8) (h : x.length ≤ 1000000) : F_affiantref15_Trim (bytesV x) = some (bytesV (trimEnd x)) := by
  unfold F_affiantref15_Trim
  rw [len_bytesV]
  refine loopO_run (ι := Nat) (fun n => (bytesV x, (n : Int))) (fun _ => bytesV (trimEnd x)) (fun n => n ≤ x.length ∧ trimEnd (x.take n) = trimEnd x) (fun n => n) ?_ x.length ⟨Nat.le_refl _, by rw [List.take_length]⟩
  rintro n ⟨hn, ht⟩
  dsimp only
  simp only [decide_eq_true_eq]
  have fin : (trimEnd x = x.take n) → (if 0 ≤ (n : Int) then if 0 ≤ Int.toNat (n : Int) ∧ Int.toNat (n : Int) ≤ List.length (bytesV x) then if 0 + List.length (List.take (Int.toNat (n : Int)) (List.drop 0 (bytesV x))) ≤ 2147483648 then some (List.take (Int.toNat (n : Int)) (List.drop 0 (bytesV x))) else none else none else none : Option (List V)) = some (bytesV (trimEnd x)) := fun he => by
    rw [if_pos (by omega), Int.toNat_natCast, if_pos ⟨Nat.zero_le _, by rw [bytesV_length]; exact hn⟩, if_pos (by simp; omega), he]
    simp [bytesV, List.map_take]
  by_cases h0 : n = 0
  · right
    subst h0
    rw [if_neg (by omega)]
    simp only [Option.bind_some]
    rw [if_neg (by decide), fin (by rw [← ht]; rfl)]; rfl
  · obtain ⟨m, rfl⟩ : ∃ m, n = m + 1 := ⟨n - 1, by omega⟩
    have hm : m < x.length := by omega
    have hg : (bytesV x)[Int.toNat (((m + 1 : Nat) : Int) - 1)]? = some (byteV (x.getD m 0)) := by
      rw [show (((m + 1 : Nat) : Int) - 1).toNat = m by omega]; exact bytesV_getD hm
    have htk : x.take (m + 1) = x.take m ++ [x.getD m 0] := by
      rw [List.take_add_one, List.getD_eq_getElem?_getD, List.getElem?_eq_getElem hm]; rfl
    rw [htk, trimEnd_snoc] at ht
    rw [if_pos (by omega), w64_in (by omega) (by omega), if_pos (by omega), hg]
    simp only [Option.bind_some, byte_val, beq_iff_eq]
    have h32 := byte32 (x.getD m 0)
    have h9 := byte9 (x.getD m 0)
    generalize x.getD m 0 = c at *
    by_cases hc : c = 32 ∨ c = 9
    · left
      refine ⟨m, ?_, ⟨by omega, by rw [if_pos hc] at ht; exact ht⟩, by omega, by trivial⟩
      have hq : (if (c.toNat : Int) = 32 then (some true : Option Bool) else some (decide ((c.toNat : Int) = 9))) = some true := by
        by_cases h1 : c = 32
        · rw [if_pos (h32.2 h1)]
        · rw [if_neg fun e => h1 (h32.1 e)]
          exact congrArg some (decide_eq_true (h9.2 (hc.resolve_left h1)))
      have hq2 : (if ((c.toNat : Int) == 32) = false then (some ((c.toNat : Int) == 9) : Option Bool) else some true) = some true := by
        rw [← hq]
        by_cases e1 : (c.toNat : Int) = 32
        · rw [if_pos e1, if_neg (by rw [e1]; decide)]
        · rw [if_neg e1, if_pos (by rw [beqI]; exact decide_eq_false e1), beqI]
      rw [if_pos (c := 0 ≤ ((m + 1 : Nat) : Int) - 1) (by omega), hq2]
      simp only [Option.bind_some, if_true]
      rw [show ((m + 1 : Nat) : Int) - 1 = (m : Int) by omega]
    · right
      rw [if_neg hc] at ht
      have hq2 : (if ((c.toNat : Int) == 32) = false then (some ((c.toNat : Int) == 9) : Option Bool) else some true) = some false := by
        rw [if_pos (by rw [beqI]; exact decide_eq_false fun e => hc (.inl (h32.1 e))), beqI]
        exact congrArg some (decide_eq_false fun e => hc (.inr (h9.1 e)))
      rw [if_pos (c := 0 ≤ ((m + 1 : Nat) : Int) - 1) (by omega), hq2]
      simp only [Option.bind_some, Bool.false_eq_true, if_false]
      rw [fin (by rw [← ht, htk])]; rfl

theorem ref_lines_eq (l : List UInt8) (h : l.length ≤ 1000000) : F_affiantref15_Lines (bytesV l) = some (lnV (linesB l)) := by
  unfold F_affiantref15_Lines
  have hcell : ∀ b : UInt8, (V.cells (byteV b))[0]? = some (byteV b) := fun _ => rfl
  refine loopO_run (ι := Nat × List (List UInt8) × List UInt8) (fun i => (bytesV l, lnV i.2.1, bytesV i.2.2, (i.1 : Int))) (fun _ => lnV (linesB l))
    (fun i => i.1 ≤ l.length ∧ i.2.1 ++ refL i.2.2 (l.drop i.1) = linesB l ∧ i.2.1.length ≤ i.1 ∧ i.2.2.length ≤ i.1) (fun i => l.length - i.1) ?_ (0, [], []) ⟨Nat.zero_le _, refL_lines _ l (Nat.le_refl _), Nat.le_refl _, Nat.le_refl _⟩
  rintro ⟨i, d, cur⟩ ⟨hi, hd, h1, h2⟩
  simp only at hi hd h1 h2
  dsimp only
  simp only [len_bytesV, decide_eq_true_eq, all_id]
  by_cases hc : i < l.length
  · left
    have hdr : l.drop i = l.getD i 0 :: l.drop (i + 1) := by
      rw [List.drop_eq_getElem_cons hc, List.getD_eq_getElem?_getD, List.getElem?_eq_getElem hc]; rfl
    rw [hdr] at hd
    rw [if_pos (by omega), if_pos (by omega), Int.toNat_natCast, bytesV_getD hc]
    simp only [Option.bind_some, byte_val, bne_iff_ne, ne_eq]
    have h10 := byte10 (l.getD i 0)
    generalize l.getD i 0 = c at *
    unfold refL at hd
    by_cases e : c = 10
    · rw [if_pos e] at hd
      refine ⟨(i + 1, d ++ [trimB cur], []), ?_, ⟨hc, by rw [List.append_assoc]; exact hd, by simp; omega, by simp⟩, by simp only; omega, by trivial⟩
      rw [if_neg (not_not_intro (h10.2 e))]
      rcases List.eq_nil_or_concat cur with rfl | ⟨y, z, rfl⟩
      · rw [if_neg (by simp)]
        simp only [Option.bind_some, Bool.false_eq_true, if_false, lnV_length]
        rw [if_pos (by omega), w64_in (by omega) (by omega), lnV_append]
        rfl
      · rw [List.concat_eq_append] at *
        have hl : (y ++ [z]).length = y.length + 1 := by simp
        have hg : (bytesV (y ++ [z]))[0 + Int.toNat (((y.length + 1 : Nat) : Int) - 1)]? = some (byteV z) := by
          rw [show 0 + (((y.length + 1 : Nat) : Int) - 1).toNat = y.length by omega, bytesV_append, List.getElem?_append_right (by simp)]; simp [bytesV]
        have h13 := byte13 z
        rw [hl] at h2 ⊢
        rw [if_pos (by omega), w64_in (by omega) (by omega), if_pos (by omega), hg]
        simp only [Option.bind_some, hcell, byte_val, beq_iff_eq]
        by_cases ez : z = 13
        · rw [if_pos (h13.2 ez), if_pos (by omega), if_pos ⟨Nat.zero_le _, by rw [bytesV_length, hl]; omega⟩]
          simp only [Option.bind_some, lnV_length]
          have ht : trimB (y ++ [z]) = y := by rw [ez]; exact trimB_13 y
          have htk : List.take (((y.length + 1 : Nat) : Int) - 1).toNat (List.drop 0 (bytesV (y ++ [z]))) = bytesV y := by
            rw [show (((y.length + 1 : Nat) : Int) - 1).toNat = y.length by omega, List.drop_zero, bytesV_append, List.take_left' (by simp)]
          rw [htk, if_pos (by omega), w64_in (by omega) (by omega), lnV_append, ht]
          rfl
        · rw [if_neg fun q => ez (h13.1 q)]
          simp only [Option.bind_some, lnV_length]
          have ht : trimB (y ++ [z]) = y ++ [z] := trimB_no (by simpa using ez)
          rw [if_pos (by omega), w64_in (by omega) (by omega), lnV_append, ht]
          rfl
    · rw [if_neg e] at hd
      refine ⟨(i + 1, d, cur ++ [c]), ?_, ⟨hc, hd, by simp only; omega, by simp; omega⟩, by simp only; omega, by trivial⟩
      rw [if_pos fun q => e (h10.1 q), if_pos (by omega), bytesV_length, if_pos (by omega), w64_in (by omega) (by omega), bytesV_append]
      rfl
  · right
    have : i = l.length := by omega
    subst this
    rw [List.drop_length] at hd
    rw [if_neg (by omega), lnV_length, if_pos (by omega)]
    simp only [Option.bind_some]
    rw [← hd, refL, lnV_append]
    rfl

theorem joinB_snoc (by' : List UInt8) (l : List (List UInt8)) (x : List UInt8) : joinB by' (l ++ [x]) = joinB by' l ++ (if l = [] then [] else by') ++ x := by
  cases l with
  | nil => simp [joinB]
  | cons y r => simp [joinB]

theorem joined_eq (ls : List (List UInt8)) (by' : List UInt8) (h1 : ls.length ≤ 1000000) (h2 : (joinB by' ls).length ≤ 1000000) : F_affiantref15_joined (lnV ls, by') = some (bytesV (joinB by' ls)) := by
  unfold F_affiantref15_joined
  refine loopO_run (ι := Nat) (fun i => (lnV ls, by', bytesV (joinB by' (ls.take i)), (i : Int))) (fun _ => bytesV (joinB by' ls)) (fun i => i ≤ ls.length) (fun i => ls.length - i) ?_ 0 (Nat.zero_le _)
  intro i hi
  dsimp only
  simp only [len_lnV, decide_eq_true_eq, all_id]
  by_cases hc : i < ls.length
  · left
    obtain ⟨x, hx⟩ : ∃ x, ls[i]? = some x := ⟨_, List.getElem?_eq_getElem hc⟩
    have htk : ls.take (i + 1) = ls.take i ++ [x] := by rw [List.take_add_one, hx]; rfl
    have hj : joinB by' (ls.take (i + 1)) = joinB by' (ls.take i) ++ (if i = 0 then [] else by') ++ x := by
      rw [htk, joinB_snoc]
      have : ls.take i = [] ↔ i = 0 := by
        rw [List.take_eq_nil_iff]
        constructor
        · rintro (h | h)
          · exact h
          · rw [h] at hc; simp at hc
        · exact .inl
      by_cases h0 : i = 0
      · rw [if_pos (this.2 h0), if_pos h0]
      · rw [if_neg fun q => h0 (this.1 q), if_neg h0]
    have hsz : (joinB by' (ls.take (i + 1))).length ≤ (joinB by' ls).length := by
      have : ∃ t, joinB by' ls = joinB by' (ls.take (i + 1)) ++ t := by
        cases ls with
        | nil => simp at hc
        | cons y r =>
          refine ⟨(r.drop i).flatMap fun z => by' ++ z, ?_⟩
          rw [List.take_succ_cons]
          simp only [joinB]
          conv => lhs; rw [← List.take_append_drop i r]
          rw [List.flatMap_append, List.append_assoc]
      obtain ⟨t, ht⟩ := this
      rw [ht, List.length_append]; omega
    refine ⟨i + 1, ?_, hc, by omega, by trivial⟩
    rw [hj] at hsz ⊢
    rw [if_pos (by omega)]
    by_cases h0 : i = 0
    · rw [if_neg (by omega)]
      rw [if_pos h0] at hsz ⊢
      simp only [Option.bind_some, List.append_nil, List.length_append] at *
      rw [if_pos (by omega), Int.toNat_natCast, lnV_get hx]
      simp only [Option.bind_some, lst_of, bytesV_length]
      rw [if_pos (by omega), w64_in (by omega) (by omega), bytesV_append]
      rfl
    · rw [if_pos (by omega)]
      rw [if_neg h0] at hsz ⊢
      simp only [List.length_append] at hsz
      rw [bytesV_length, bytesV_length, if_pos (by omega)]
      simp only [Option.bind_some]
      rw [if_pos (by omega), Int.toNat_natCast, lnV_get hx]
      simp only [Option.bind_some, lst_of, bytesV_length, List.length_append]
      rw [if_pos (by omega), w64_in (by omega) (by omega), bytesV_append, bytesV_append]
      rfl
  · right
    have : i = ls.length := by omega
    subst this
    rw [if_neg (by omega), List.take_length]

theorem small_join (l : List UInt8) (by' : List UInt8) (h : l.length ≤ 1000) (hb : by'.length ≤ 2) : (joinB by' (linesB l)).length ≤ 1000000 ∧ (linesB l).length ≤ 1000000 ∧ (joinB by' ((linesB l).map trimEnd)).length ≤ 1000000 ∧ sumL (linesB l) ≤ 2000 := by
  have h1 := lines_size l
  have h2 := joinB_len by' (linesB l)
  have h3 := joinB_len by' ((linesB l).map trimEnd)
  have h4 := sumL_trim (linesB l)
  have h5 : by'.length * (linesB l).length ≤ 2 * (linesB l).length := Nat.mul_le_mul_right _ hb
  rw [List.length_map] at h3
  omega
theorem ref_canon_eq (l : List UInt8) (h : l.length ≤ 1000) : F_affiantref15_Canon (bytesV l) = some (bytesV (canonB l)) := by
  have hs := small_join l [13, 10] h (by simp)
  unfold F_affiantref15_Canon
  refine bind_to (ref_lines_eq l (by omega)) ?_
  rw [all_id, show by8 [13, 10] = [13, 10] from rfl, joined_eq _ _ hs.2.1 hs.1]; rfl
theorem ref_plain_eq (l : List UInt8) (h : l.length ≤ 1000) : F_affiantref15_Plain (bytesV l) = some (bytesV (plainB l)) := by
  have hs := small_join l [10] h (by simp)
  unfold F_affiantref15_Plain
  refine bind_to (ref_lines_eq l (by omega)) ?_
  rw [all_id, show by8 [10] = [10] from rfl, joined_eq _ _ hs.2.1 hs.1]; rfl
theorem ref_signed_eq (l : List UInt8) (h : l.length ≤ 1000) : F_affiantref15_Signed (bytesV l) = some (bytesV (signedB l)) := by
  have hs := small_join l [13, 10] h (by simp)
  have hle : ∀ x ∈ linesB l, x.length ≤ 2000 := fun x hx => Nat.le_trans (sum_le x _ hx) hs.2.2.2
  unfold F_affiantref15_Signed
  refine bind_to (ref_lines_eq l (by omega)) ?_
  refine loopO_run (ι := Nat) (fun i => (lnV (linesB l), lnV (((linesB l).take i).map trimEnd), (i : Int))) (fun _ => bytesV (signedB l)) (fun i => i ≤ (linesB l).length) (fun i => (linesB l).length - i) ?_ 0 (Nat.zero_le _)
  intro i hi
  dsimp only
  simp only [len_lnV, decide_eq_true_eq, all_id]
  by_cases hc : i < (linesB l).length
  · left
    obtain ⟨x, hx⟩ : ∃ x, (linesB l)[i]? = some x := ⟨_, List.getElem?_eq_getElem hc⟩
    have hcell : (V.cells (V.sl false false 1 (bytesV x)))[0]? = some (V.sl false false 1 (bytesV x)) := rfl
    have hm : lnV (((linesB l).take (i + 1)).map trimEnd) = lnV (((linesB l).take i).map trimEnd) ++ [V.sl false false 1 (bytesV (trimEnd x))] := by
      rw [List.take_add_one, hx, List.map_append, lnV_append]; rfl
    have hlt : (lnV (((linesB l).take i).map trimEnd)).length ≤ 1000000 := by
      rw [lnV_length, List.length_map, List.length_take]; omega
    refine ⟨i + 1, ?_, hc, by omega, by trivial⟩
    rw [if_pos (by omega), if_pos (by omega), Nat.zero_add, Int.toNat_natCast, lnV_get hx]
    simp only [Option.bind_some, hcell, lst_of]
    have hxl := hle x (List.mem_of_getElem? hx)
    rw [ref_trim_eq x (by omega)]
    simp only [Option.bind_some]
    rw [if_pos (by omega), w64_in (by omega) (by omega), hm]
    rfl
  · right
    have : i = (linesB l).length := by omega
    subst this
    rw [if_neg (by omega), List.take_length, show by8 [13, 10] = [13, 10] from rfl, joined_eq _ _ (by rw [List.length_map]; omega) hs.2.2.1]
    rfl

theorem ref_word_eq (s : List UInt8) (h : s.length ≤ 1000000) : F_affiantref15_IsWord s = some (isWordB s) := by
  unfold F_affiantref15_IsWord
  refine loopO_run (ι := Nat) (fun i => (s, false, (i : Int))) (fun _ => isWordB s) (fun i => i ≤ s.length ∧ ((s.take i).all fun c => decide (33 ≤ c.toNat) && decide (c.toNat ≤ 126)) = true) (fun i => s.length - i) ?_ 0 ⟨Nat.zero_le _, by simp⟩
  rintro i ⟨hi, hall⟩
  dsimp only
  simp only [len, decide_eq_true_eq]
  by_cases hc : i < s.length
  · obtain ⟨b, hb⟩ : ∃ b, s[i]? = some b := ⟨_, List.getElem?_eq_getElem hc⟩
    rw [if_pos (by omega), if_pos (by omega), Int.toNat_natCast, hb]
    simp only [Option.bind_some]
    have hq : (if decide (((UInt8.toNat b : Nat) : Int) < 33) = false then (if 0 ≤ (i : Int) then (some (decide (((UInt8.toNat b : Nat) : Int) > 126)) : Option Bool) else none) else some true) = some (decide (¬ (33 ≤ b.toNat ∧ b.toNat ≤ 126))) := by
      by_cases h1 : b.toNat < 33
      · rw [if_neg (by simp; omega)]; exact congrArg some (decide_eq_true (by omega)).symm
      · rw [if_pos (by simp; omega), if_pos (by omega)]; exact congrArg some (decide_eq_decide.2 (by omega))
    rw [hq]
    simp only [Option.bind_some, decide_eq_true_eq]
    by_cases hin : 33 ≤ b.toNat ∧ b.toNat ≤ 126
    · left
      refine ⟨i + 1, ?_, ⟨hc, ?_⟩, by omega, by trivial⟩
      · rw [if_neg (not_not_intro hin), w64_in (by omega) (by omega)]; rfl
      · rw [List.take_add_one, hb, List.all_append, hall]
        simpa using hin
    · right
      rw [if_pos hin]
      have : isWordB s = false := by
        unfold isWordB
        have : (s.all fun c => decide (33 ≤ c.toNat) && decide (c.toNat ≤ 126)) = false := by
          rw [List.all_eq_false]
          exact ⟨b, List.mem_of_getElem? hb, by simpa using hin⟩
        rw [this]; rfl
      rw [this]
  · right
    have : i = s.length := by omega
    subst this
    rw [List.take_length] at hall
    rw [if_neg (by omega)]
    have hq : (if (s.length : Int) ≥ 1 then some (decide ((s.length : Int) ≤ 60)) else some false : Option Bool) = some (isWordB s) := by
      unfold isWordB
      rw [hall]
      by_cases h1 : 1 ≤ s.length
      · rw [if_pos (by omega), decide_eq_true h1, Bool.and_self, Bool.true_and]
        exact congrArg some (decide_eq_decide.2 (by omega))
      · rw [if_neg (by omega), decide_eq_false h1]; rfl
    rw [hq]; rfl

theorem forms_guard (a b : Nat) : (if decide ((a : Int) > 300) = false then some (decide ((b : Int) > 300)) else some true : Option Bool) = some (decide (¬ (a ≤ 300 ∧ b ≤ 300))) := by
  by_cases h1 : a ≤ 300
  · rw [if_pos (by simp; omega)]; exact congrArg some (decide_eq_decide.2 (by omega))
  · rw [if_neg (by simp; omega)]; exact congrArg some (decide_eq_true (by omega)).symm

theorem law_TextForms (b s : List UInt8) : F_affiantlaw15_TextForms (bytesV b, s) = some true := by
  have al := alive15
  unfold F_affiantlaw15_TextForms
  simp only [len_bytesV]
  rw [show len s = (s.length : Int) from rfl, forms_guard]
  simp only [Option.bind_some, decide_eq_true_eq]
  by_cases h : b.length ≤ 300 ∧ s.length ≤ 300
  · rw [if_neg (not_not_intro h), bytesV_length, if_pos (by omega)]
    have c1 := canon_eq b (by omega)
    have c2 := ref_canon_eq b (by omega)
    have p1 := plain_eq b (by omega)
    have p2 := ref_plain_eq b (by omega)
    have s1 := signed_eq b (by omega)
    have s2 := ref_signed_eq b (by omega)
    have w := ref_word_eq s (by omega)
    simp only [al, c1, c2, p1, p2, s1, s2, w, Option.bind_some, if_true, all_id, unbytes_bytesV, beq_self_eq_true]
  · rw [if_pos h, al]; rfl
end Go.Proofs.YtffofdfikmpanaaDoor.A
