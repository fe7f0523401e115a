/- What the printed functions answer, in plain terms. Conditions: none. -/
import Derived.Test.YtffofdfikmpanaaDoorLE
import Derived.Test.YtffofdfikmpanaaDoorG1
set_option linter.unusedVariables false
set_option linter.unusedSimpArgs false
set_option linter.constructorNameAsVariable false
set_option linter.unusedSectionVars false

namespace Go.Proofs.YtffofdfikmpanaaDoor.A
set_option linter.unusedVariables false
set_option linter.unusedSimpArgs false

/-- Numbers of one kind. -/
def numV (k : IntKind) (l : List Nat) : List V := l.map fun (n : Nat) => V.int k (n : Int)
@[simp] theorem numV_length (k : IntKind) (l : List Nat) : (numV k l).length = l.length := by simp [numV]
theorem numV_get (k : IntKind) (l : List Nat) (i : Nat) : (numV k l)[i]? = (l[i]?).map fun (n : Nat) => V.int k (n : Int) := by simp [numV]
theorem numV_append (k : IntKind) (l m : List Nat) : numV k (l ++ m) = numV k l ++ numV k m := by simp [numV]
theorem numV_take (k : IntKind) (l : List Nat) (n : Nat) : (numV k l).take n = numV k (l.take n) := by simp [numV, List.map_take]
theorem numV_drop (k : IntKind) (l : List Nat) (n : Nat) : (numV k l).drop n = numV k (l.drop n) := by simp [numV, List.map_drop]
theorem numV_set (k : IntKind) (l : List Nat) (i n : Nat) : (numV k l).set i (.int k (n : Int)) = numV k (l.set i n) := by simp [numV, List.map_set]
theorem numV_cons (k : IntKind) (n : Nat) (l : List Nat) : numV k (n :: l) = .int k (n : Int) :: numV k l := rfl
@[simp] theorem numV_nil (k : IntKind) : numV k [] = [] := rfl
theorem numV_replicate (k : IntKind) (n m : Nat) : numV k (List.replicate n m) = List.replicate n (.int k (m : Int)) := by simp [numV]
theorem numV_getD {k : IntKind} {l : List Nat} {i : Nat} (h : i < l.length) : (numV k l)[i]? = some (.int k ((l.getD i 0 : Nat) : Int)) := by
  rw [numV_get, List.getD_eq_getElem?_getD, List.getElem?_eq_getElem h]; rfl
theorem bytesV_getD {l : List UInt8} {i : Nat} (h : i < l.length) : (bytesV l)[i]? = some (byteV (l.getD i 0)) := by
  rw [bytesV_get, List.getD_eq_getElem?_getD, List.getElem?_eq_getElem h]; rfl
theorem bytesV_set (l : List UInt8) (i : Nat) (b : UInt8) : (bytesV l).set i (byteV b) = bytesV (l.set i b) := by simp [bytesV, List.map_set]
theorem bytesV_replicate (n : Nat) (b : UInt8) : bytesV (List.replicate n b) = List.replicate n (byteV b) := by simp [bytesV]
@[simp] theorem int?_int (k : IntKind) (n : Int) : V.int? k (.int k n) = some n := by simp [V.int?]
@[simp] theorem cells_int (k : IntKind) (n : Int) : (V.int k n).cells = [.int k n] := rfl
@[simp] theorem storeEl_int (k : IntKind) (n : Int) (j : Nat) (v : V) : storeEl (.int k n) j [v] = v := rfl
theorem len_bytesV (l : List UInt8) : len (bytesV l) = (l.length : Int) := by simp [len]
theorem len_numV (k : IntKind) (l : List Nat) : len (numV k l) = (l.length : Int) := by simp [len]

/-! Words that fit. -/
theorem w64_in {n : Int} (h1 : -9223372036854775808 ≤ n) (h2 : n ≤ 9223372036854775807) : w64 n = n := wrap_in h1 h2
theorem w64_nat {n : Nat} (h : n < 9223372036854775808) : w64 (n : Int) = (n : Int) := wrap_nat h
theorem wu8_nat (n : Nat) : wu8 (n : Int) = ((n % 256 : Nat) : Int) := wrap_u8 n
theorem wu32_eq (n : Int) : wu32 n = n % 4294967296 := by simp [wu32, IntKind.wrap, IntKind.bits, IntKind.signed]
theorem wu64_eq (n : Int) : wu64 n = n % 18446744073709551616 := by simp [wu64, IntKind.wrap, IntKind.bits, IntKind.signed]
theorem wu8_eq (n : Int) : wu8 n = n % 256 := by simp [wu8, IntKind.wrap, IntKind.bits, IntKind.signed]
theorem wu32_nat (n : Nat) : wu32 (n : Int) = ((n % 4294967296 : Nat) : Int) := by rw [wu32_eq]; omega
theorem wu64_nat (n : Nat) : wu64 (n : Int) = ((n % 18446744073709551616 : Nat) : Int) := by rw [wu64_eq]; omega
theorem wrap_uns {k : IntKind} (h : k.signed = false) (n : Nat) : k.wrap (n : Int) = ((n % 2 ^ k.bits : Nat) : Int) := by
  cases k <;> simp [IntKind.signed] at h <;> simp [IntKind.wrap, IntKind.bits, IntKind.signed]

theorem wordOr_uns {k : IntKind} (h : k.signed = false) {a b : Nat} (ha : a < 2 ^ k.bits) (hb : b < 2 ^ k.bits) : wordOr k (a : Int) (b : Int) = ((a ||| b : Nat) : Int) := by
  unfold wordOr
  simp only [BitVec.toNat_or, BitVec.ofInt_natCast, BitVec.toNat_ofNat]
  rw [Nat.mod_eq_of_lt ha, Nat.mod_eq_of_lt hb, wrap_uns h, Nat.mod_eq_of_lt (Nat.or_lt_two_pow ha hb)]
theorem wordAnd_uns {k : IntKind} (h : k.signed = false) {a b : Nat} (ha : a < 2 ^ k.bits) (hb : b < 2 ^ k.bits) : wordAnd k (a : Int) (b : Int) = ((a &&& b : Nat) : Int) := by
  unfold wordAnd
  simp only [BitVec.toNat_and, BitVec.ofInt_natCast, BitVec.toNat_ofNat]
  rw [Nat.mod_eq_of_lt ha, Nat.mod_eq_of_lt hb, wrap_uns h, Nat.mod_eq_of_lt (Nat.and_lt_two_pow _ hb)]
theorem wordXor_uns {k : IntKind} (h : k.signed = false) {a b : Nat} (ha : a < 2 ^ k.bits) (hb : b < 2 ^ k.bits) : wordXor k (a : Int) (b : Int) = ((a ^^^ b : Nat) : Int) := by
  unfold wordXor
  simp only [BitVec.toNat_xor, BitVec.ofInt_natCast, BitVec.toNat_ofNat]
  rw [Nat.mod_eq_of_lt ha, Nat.mod_eq_of_lt hb, wrap_uns h, Nat.mod_eq_of_lt (Nat.xor_lt_two_pow ha hb)]
theorem wordShl_uns {k : IntKind} (h : k.signed = false) (a n : Nat) (hn : n ≤ k.bits) : wordShl k (a : Int) (n : Int) = ((a * 2 ^ n % 2 ^ k.bits : Nat) : Int) := by
  unfold wordShl
  rw [Int.toNat_natCast, Nat.min_eq_left hn, show (a : Int) * 2 ^ n = ((a * 2 ^ n : Nat) : Int) by simp, wrap_uns h]
theorem wordShr_any {k : IntKind} (a n : Nat) (hn : n ≤ k.bits) : wordShr k (a : Int) (n : Int) = ((a / 2 ^ n : Nat) : Int) := by
  unfold wordShr
  rw [Int.toNat_natCast, Nat.min_eq_left hn, show ((2 : Int) ^ n) = ((2 ^ n : Nat) : Int) by simp, Int.fdiv_eq_ediv_of_nonneg _ (Int.natCast_nonneg _)]
  rfl

theorem wordOr_u8 {a b : Nat} (ha : a < 256) (hb : b < 256) : wordOr .u8 (a : Int) (b : Int) = ((a ||| b : Nat) : Int) := wordOr_uns rfl ha hb
theorem wordOr_u32 {a b : Nat} (ha : a < 4294967296) (hb : b < 4294967296) : wordOr .u32 (a : Int) (b : Int) = ((a ||| b : Nat) : Int) := wordOr_uns rfl ha hb
theorem wordOr_u64 {a b : Nat} (ha : a < 18446744073709551616) (hb : b < 18446744073709551616) : wordOr .u64 (a : Int) (b : Int) = ((a ||| b : Nat) : Int) := wordOr_uns rfl ha hb
theorem wordAnd_u8 {a b : Nat} (ha : a < 256) (hb : b < 256) : wordAnd .u8 (a : Int) (b : Int) = ((a &&& b : Nat) : Int) := wordAnd_uns rfl ha hb
theorem wordAnd_u32 {a b : Nat} (ha : a < 4294967296) (hb : b < 4294967296) : wordAnd .u32 (a : Int) (b : Int) = ((a &&& b : Nat) : Int) := wordAnd_uns rfl ha hb
theorem wordAnd_u64 {a b : Nat} (ha : a < 18446744073709551616) (hb : b < 18446744073709551616) : wordAnd .u64 (a : Int) (b : Int) = ((a &&& b : Nat) : Int) := wordAnd_uns rfl ha hb
theorem wordXor_u8 {a b : Nat} (ha : a < 256) (hb : b < 256) : wordXor .u8 (a : Int) (b : Int) = ((a ^^^ b : Nat) : Int) := wordXor_uns rfl ha hb
theorem wordXor_u32 {a b : Nat} (ha : a < 4294967296) (hb : b < 4294967296) : wordXor .u32 (a : Int) (b : Int) = ((a ^^^ b : Nat) : Int) := wordXor_uns rfl ha hb
theorem wordXor_u64 {a b : Nat} (ha : a < 18446744073709551616) (hb : b < 18446744073709551616) : wordXor .u64 (a : Int) (b : Int) = ((a ^^^ b : Nat) : Int) := wordXor_uns rfl ha hb
theorem wordShl_u8 (a n : Nat) (hn : n ≤ 8) : wordShl .u8 (a : Int) (n : Int) = ((a * 2 ^ n % 256 : Nat) : Int) := wordShl_uns rfl a n hn
theorem wordShr_u8 (a n : Nat) (hn : n ≤ 8) : wordShr .u8 (a : Int) (n : Int) = ((a / 2 ^ n : Nat) : Int) := wordShr_any a n hn
theorem wordShl_u32 (a n : Nat) (hn : n ≤ 32) : wordShl .u32 (a : Int) (n : Int) = ((a * 2 ^ n % 4294967296 : Nat) : Int) := wordShl_uns rfl a n hn
theorem wordShr_u32 (a n : Nat) (hn : n ≤ 32) : wordShr .u32 (a : Int) (n : Int) = ((a / 2 ^ n : Nat) : Int) := wordShr_any a n hn
theorem wordShl_u64 (a n : Nat) (hn : n ≤ 64) : wordShl .u64 (a : Int) (n : Int) = ((a * 2 ^ n % 18446744073709551616 : Nat) : Int) := wordShl_uns rfl a n hn
theorem wordShr_u64 (a n : Nat) (hn : n ≤ 64) : wordShr .u64 (a : Int) (n : Int) = ((a / 2 ^ n : Nat) : Int) := wordShr_any a n hn

/-- Bits that do not meet, laid together. -/
theorem or_high {a b m : Nat} (h1 : 2 ^ m ∣ a) (h2 : b < 2 ^ m) : a ||| b = a + b := by
  obtain ⟨c, rfl⟩ := h1
  exact (Nat.two_pow_add_eq_or_of_lt h2 c).symm
theorem or_low {a b m : Nat} (h1 : a < 2 ^ m) (h2 : 2 ^ m ∣ b) : a ||| b = a + b := by rw [Nat.or_comm, or_high h2 h1, Nat.add_comm]
end Go.Proofs.YtffofdfikmpanaaDoor.A

namespace Go.Proofs.YtffofdfikmpanaaDoor.A
set_option linter.unusedVariables false
theorem all_id (l : List V) : all l = l := by cases l <;> exact all_eq _
theorem bind_to {α β : Type} {a : Option α} {v : α} {f : α → Option β} {r : Option β} (h1 : a = some v) (h2 : f v = r) : a.bind f = r := by rw [h1]; exact h2
theorem beqI (a b : Int) : (a == b) = decide (a = b) := by rw [Bool.eq_iff_iff]; simp
theorem lst_of (l : List V) : V.lst? false 1 (V.sl false false 1 l) = some l := by simp [V.lst?]
end Go.Proofs.YtffofdfikmpanaaDoor.A

namespace Go.Proofs.YtffofdfikmpanaaDoor.A
set_option linter.unusedVariables false
set_option linter.unusedSimpArgs false
set_option maxRecDepth 10000

def cutB : List UInt8 → List UInt8 × Option (List UInt8)
  | [] => ([], none)
  | b :: r => if b = 10 then ([], some r) else (b :: (cutB r).1, (cutB r).2)
def trimB (l : List UInt8) : List UInt8 := if l.getLast? = some 13 then l.dropLast else l
def linesN : Nat → List UInt8 → List (List UInt8)
  | 0, l => [l]
  | n + 1, l => match (cutB l).2 with
    | some r => trimB (cutB l).1 :: linesN n r
    | none => [(cutB l).1]
/-- A text's lines. -/
def linesB (l : List UInt8) : List (List UInt8) := linesN l.length l

theorem isN_byte (m : Nat) (hm : m < 256) (b : UInt8) : (byteV b).isN (m : Int) = decide (b = UInt8.ofNat m) := by
  have : (b.toNat : Int) = (m : Int) ↔ b = UInt8.ofNat m := by
    constructor
    · intro h
      apply UInt8.toNat_inj.1
      rw [UInt8.toNat_ofNat']
      have : b.toNat = m := by omega
      rw [this]
      exact (Nat.mod_eq_of_lt hm).symm
    · intro h
      have := congrArg UInt8.toNat h
      rw [UInt8.toNat_ofNat'] at this
      omega
  show decide ((b.toNat : Int) = (m : Int)) = _
  exact decide_eq_decide.2 this

theorem cutV_bytes : ∀ l : List UInt8, cutV (bytesV l) = (bytesV (cutB l).1, (cutB l).2.map bytesV)
  | [] => rfl
  | b :: r => by
    have h := cutV_bytes r
    show cutV (byteV b :: bytesV r) = _
    unfold cutV cutB
    rw [show (10 : Int) = ((10 : Nat) : Int) from rfl, isN_byte 10 (by omega) b, show UInt8.ofNat 10 = 10 from rfl, h]
    by_cases hb : b = 10
    · rw [if_pos (decide_eq_true hb), if_pos hb]; rfl
    · rw [if_neg (by simpa using hb), if_neg hb]; rfl

theorem trimV_bytes (l : List UInt8) : trimV (bytesV l) = bytesV (trimB l) := by
  unfold trimV trimB
  have hl : (bytesV l).getLast? = l.getLast?.map byteV := by simp [bytesV, List.getLast?_map]
  rw [hl]
  cases h : l.getLast? with
  | none => simp
  | some b =>
    simp only [Option.map_some]
    rw [show (13 : Int) = ((13 : Nat) : Int) from rfl, isN_byte 13 (by omega) b, show UInt8.ofNat 13 = 13 from rfl]
    by_cases hb : b = 13
    · rw [if_pos (decide_eq_true hb), if_pos (by rw [hb])]
      simp [bytesV, List.map_dropLast]
    · rw [if_neg (by simpa using hb), if_neg (by simpa using hb)]

theorem eachL_bytes : ∀ (n : Nat) (l : List UInt8), eachL n (bytesV l) = (linesN n l).map bytesV
  | 0, l => rfl
  | n + 1, l => by
    simp only [eachL, linesN, cutV_bytes]
    cases (cutB l).2 with
    | none => rfl
    | some r =>
      simp only [Option.map_some, List.map_cons, trimV_bytes]
      rw [eachL_bytes n r]

/-- Lines as what is told of them. -/
def itemsV (l : List (List UInt8)) : List (List V) := l.map fun x => [V.sl false false 1 (bytesV x)]
theorem eachItems_bytes (l : List UInt8) (h : l.length ≤ 4611686018427387904) : eachItems false (bytesV l) = some (itemsV (linesB l)) := by
  unfold eachItems itemsV linesB
  have hu : (bytesV l).all V.isU8 = true := by
    rw [List.all_eq_true]
    intro v hv
    obtain ⟨b, _, rfl⟩ := List.mem_map.1 hv
    have := b.toNat_lt
    show (decide (0 ≤ (b.toNat : Int)) && decide ((b.toNat : Int) < 256)) = true
    simp; omega
  rw [if_pos (by rw [hu]; simpa using h), eachL_bytes, bytesV_length]
  simp

theorem cutB_len : ∀ l : List UInt8, ((cutB l).2 = none → (cutB l).1 = l) ∧ ∀ r, (cutB l).2 = some r → (cutB l).1.length + 1 + r.length = l.length
  | [] => ⟨fun _ => rfl, fun r h => by cases h⟩
  | b :: r => by
    obtain ⟨h1, h2⟩ := cutB_len r
    unfold cutB
    by_cases hb : b = 10
    · rw [if_pos hb]
      exact ⟨fun h => (by cases h), fun r' h => (by cases h; simp; omega)⟩
    · rw [if_neg hb]
      refine ⟨fun h => by rw [h1 h], fun r' h => ?_⟩
      have := h2 r' h
      simp; omega

theorem trimB_len (l : List UInt8) : (trimB l).length ≤ l.length := by
  unfold trimB; split
  · simp
  · exact Nat.le_refl _

/-- How long lines are together. -/
def sumL (l : List (List UInt8)) : Nat := (l.map List.length).sum
theorem sumL_cons (x : List UInt8) (l : List (List UInt8)) : sumL (x :: l) = x.length + sumL l := by simp [sumL]

theorem sum_le (x : List UInt8) : ∀ l : List (List UInt8), x ∈ l → x.length ≤ sumL l
  | [], h => by cases h
  | y :: l, h => by
    rw [sumL_cons]
    rcases List.mem_cons.1 h with rfl | h
    · omega
    · have := sum_le x l h; omega

theorem linesN_size : ∀ (n : Nat) (l : List UInt8), sumL (linesN n l) + (linesN n l).length ≤ l.length + 1 ∧ linesN n l ≠ []
  | 0, l => by simp [linesN, sumL]
  | n + 1, l => by
    obtain ⟨h1, h2⟩ := cutB_len l
    unfold linesN
    cases hr : (cutB l).2 with
    | none =>
      dsimp only
      rw [h1 hr]; simp [sumL]
    | some r =>
      dsimp only
      have := h2 r hr
      have := linesN_size n r
      have := trimB_len (cutB l).1
      refine ⟨?_, by simp⟩
      rw [sumL_cons, List.length_cons]
      omega
theorem lines_size (l : List UInt8) : sumL (linesB l) + (linesB l).length ≤ l.length + 1 := (linesN_size _ l).1
theorem lines_ne (l : List UInt8) : linesB l ≠ [] := (linesN_size _ l).2

/-- Lines, joined. -/
def joinB (by' : List UInt8) : List (List UInt8) → List UInt8
  | [] => []
  | x :: r => x ++ r.flatMap fun y => by' ++ y
theorem joinB_len (by' : List UInt8) (l : List (List UInt8)) : (joinB by' l).length ≤ sumL l + by'.length * l.length := by
  have h : ∀ r : List (List UInt8), (r.flatMap fun y => by' ++ y).length = sumL r + by'.length * r.length := by
    intro r
    induction r with
    | nil => rfl
    | cons y r ih =>
      rw [List.flatMap_cons, List.length_append, ih, List.length_append, sumL_cons, List.length_cons, Nat.mul_add]
      omega
  cases l with
  | nil => simp [joinB]
  | cons x r =>
    simp only [joinB, List.length_append, h, sumL_cons, List.length_cons, Nat.mul_add]
    omega

theorem cutB_no10 : ∀ {x : List UInt8}, (10 : UInt8) ∉ x → cutB x = (x, none)
  | [], _ => rfl
  | b :: x, h => by
    simp only [List.mem_cons, not_or] at h
    unfold cutB
    rw [if_neg (Ne.symm h.1), cutB_no10 h.2]
theorem cutB_at : ∀ {x : List UInt8} (r : List UInt8), (10 : UInt8) ∉ x → cutB (x ++ 10 :: r) = (x, some r)
  | [], r, _ => by simp [cutB]
  | b :: x, r, h => by
    simp only [List.mem_cons, not_or] at h
    rw [List.cons_append]
    unfold cutB
    rw [if_neg (Ne.symm h.1), cutB_at r h.2]

theorem linesN_no10 : ∀ (n : Nat) (l : List UInt8), l.length ≤ n → ∀ x ∈ linesN n l, (10 : UInt8) ∉ x
  | 0, l, hn, x, hx => by
    obtain rfl : l = [] := List.eq_nil_of_length_eq_zero (by omega)
    simp only [linesN, List.mem_singleton] at hx
    subst hx; simp
  | n + 1, l, hn, x, hx => by
    have key : ∀ l : List UInt8, (10 : UInt8) ∉ (cutB l).1 := by
      intro l
      induction l with
      | nil => simp [cutB]
      | cons b r ih =>
        unfold cutB
        by_cases hb : b = 10
        · rw [if_pos hb]; simp
        · rw [if_neg hb]
          simp only [List.mem_cons, not_or]
          exact ⟨Ne.symm hb, ih⟩
    unfold linesN at hx
    cases hr : (cutB l).2 with
    | none =>
      rw [hr] at hx
      simp only [List.mem_singleton] at hx
      subst hx; exact key l
    | some r =>
      rw [hr] at hx
      rcases List.mem_cons.1 hx with rfl | hx
      · intro hm
        unfold trimB at hm
        split at hm
        · exact key l ((List.dropLast_sublist _).mem hm)
        · exact key l hm
      · have := (cutB_len l).2 r hr
        exact linesN_no10 n r (by omega) x hx
theorem lines_no10 (l : List UInt8) : ∀ x ∈ linesB l, (10 : UInt8) ∉ x := linesN_no10 _ l (Nat.le_refl _)

theorem trimB_13 (x : List UInt8) : trimB (x ++ [13]) = x := by simp [trimB]
theorem trimB_no {x : List UInt8} (h : x.getLast? ≠ some 13) : trimB x = x := by simp [trimB, h]

/-- Lines that are joined with ends of two bytes, or of one where none ends with the byte 13, are the lines again. -/
theorem linesN_join (two : Bool) : ∀ (ls : List (List UInt8)) (n : Nat), ls ≠ [] → (∀ x ∈ ls, (10 : UInt8) ∉ x) → (two = false → ∀ x ∈ ls, x.getLast? ≠ some 13) → (joinB (if two then [13, 10] else [10]) ls).length ≤ n →
    linesN n (joinB (if two then [13, 10] else [10]) ls) = ls
  | [], _, h, _, _, _ => absurd rfl h
  | [x], n, _, h10, _, hn => by
    have hx := h10 x (by simp)
    have e : joinB (if two then [13, 10] else [10]) [x] = x := by simp [joinB]
    rw [e] at hn ⊢
    cases n with
    | zero => rfl
    | succ n => simp only [linesN, cutB_no10 hx]
  | x :: y :: r, n, _, h10, h13, hn => by
    have hx := h10 x (by simp)
    have e : joinB (if two then [13, 10] else [10]) (x :: y :: r) = (if two then x ++ [13] else x) ++ 10 :: joinB (if two then [13, 10] else [10]) (y :: r) := by
      cases two <;> simp [joinB]
    have hx2 : (10 : UInt8) ∉ (if two then x ++ [13] else x) := by
      cases two with
      | false => exact hx
      | true => simp only [if_true, List.mem_append, List.mem_singleton, not_or]; exact ⟨hx, by decide⟩
    rw [e] at hn ⊢
    simp only [List.length_append, List.length_cons] at hn
    obtain ⟨n, rfl⟩ : ∃ m, n = m + 1 := ⟨n - 1, by omega⟩
    unfold linesN
    rw [cutB_at _ hx2]
    dsimp only
    rw [linesN_join two (y :: r) n (by simp) (fun z hz => h10 z (by simp [hz])) (fun h z hz => h13 h z (by simp [hz])) (by omega)]
    congr 1
    cases two with
    | true => exact trimB_13 x
    | false => exact trimB_no (h13 rfl x (by simp))

def canonB (l : List UInt8) : List UInt8 := joinB [13, 10] (linesB l)
def plainB (l : List UInt8) : List UInt8 := joinB [10] (linesB l)
theorem lines_canon (l : List UInt8) : linesB (canonB l) = linesB l := linesN_join true (linesB l) _ (lines_ne l) (lines_no10 l) (fun h => by cases h) (Nat.le_refl _)
theorem lines_plain (l : List UInt8) (h : ∀ x ∈ linesB l, x.getLast? ≠ some 13) : linesB (plainB l) = linesB l := linesN_join false (linesB l) _ (lines_ne l) (lines_no10 l) (fun _ => h) (Nat.le_refl _)
theorem canon_len (l : List UInt8) : (canonB l).length ≤ 2 * l.length + 2 := by
  have := joinB_len [13, 10] (linesB l)
  have := lines_size l
  simp only [canonB, List.length_cons, List.length_nil] at *
  omega
theorem plain_len (l : List UInt8) : (plainB l).length ≤ l.length + 1 := by
  have := joinB_len [10] (linesB l)
  have := lines_size l
  simp only [plainB, List.length_cons, List.length_nil] at *
  omega

/-! ### The program's texts -/

theorem lines_eq (l : List UInt8) (h : l.length ≤ 1000000000) : F_text_Lines (bytesV l) = some ((linesB l).map fun x => V.sl false false 1 (bytesV x)) := by
  have hz := lines_size l
  unfold F_text_Lines F_text_each
  simp only [Option.bind_some]
  rw [eachItems_bytes l (by omega)]
  simp only [Option.bind_some]
  generalize linesB l = ls at hz
  refine (loopO_run (ι := List (List UInt8) × List V) (fun i => (itemsV i.1, i.2)) (fun i => i.2 ++ i.1.map fun x => V.sl false false 1 (bytesV x)) (fun i => sumL i.1 + i.1.length ≤ l.length + 1 ∧ i.2.length + i.1.length ≤ l.length + 1) (fun i => i.1.length) ?_ (ls, []) ⟨hz, by simp; omega⟩).trans (by simp)
  rintro ⟨r, acc⟩ ⟨h1, h2⟩
  cases r with
  | nil => right; simp [itemsV, all_id]
  | cons x r =>
    left
    rw [sumL_cons, List.length_cons] at h1
    simp only [List.length_cons] at h2
    refine ⟨(r, acc ++ [V.sl false false 1 (bytesV x)]), ?_, ⟨by simp only; omega, by simp only [List.length_append, List.length_cons, List.length_nil]; omega⟩, by simp, by simp⟩
    simp only [itemsV, List.map_cons, List.getElem?_cons_zero, Option.bind_some, lst_of, List.length_cons, List.length_nil, Nat.zero_add, if_true, bytesV_length, all_id]
    rw [if_pos (by omega)]
    simp only [Option.bind_some]
    rw [if_pos (by omega)]

/-- Lines, joined behind a text. -/
def joinF (by' : List UInt8) : List (List UInt8) → List UInt8 → Bool → List UInt8
  | [], acc, _ => acc
  | x :: r, acc, first => joinF by' r (acc ++ (if first then x else by' ++ x)) false
theorem joinF_false (by' : List UInt8) : ∀ (r : List (List UInt8)) (acc : List UInt8), joinF by' r acc false = acc ++ r.flatMap fun y => by' ++ y
  | [], acc => by simp [joinF]
  | x :: r, acc => by
    rw [joinF, joinF_false by' r]
    simp
theorem joinF_true (by' : List UInt8) (l : List (List UInt8)) : joinF by' l [] true = joinB by' l := by
  cases l with
  | nil => rfl
  | cons x r => rw [joinF, joinF_false]; simp [joinB]

theorem join_eq (l by' : List UInt8) (h : l.length ≤ 500000000) (hb : by'.length ≤ 2) : F_text_join__text_asIs (bytesV l, by', PUnit.unit) = some (bytesV (joinB by' (linesB l))) := by
  have hz := lines_size l
  have hne := lines_ne l
  unfold F_text_join__text_asIs F_text_each
  simp only [Option.bind_some]
  rw [eachItems_bytes l (by omega)]
  simp only [Option.bind_some]
  rw [← joinF_true]
  generalize linesB l = ls at hz hne
  refine (loopO_run (ι := List (List UInt8) × List UInt8 × Bool) (fun i => (itemsV i.1, by', PUnit.unit, bytesV i.2.1, i.2.2)) (fun i => bytesV (joinF by' i.1 i.2.1 i.2.2))
    (fun i => i.2.1.length + sumL i.1 + 2 * i.1.length ≤ 2 * l.length + 2) (fun i => i.1.length) ?_ (ls, [], true) (by simp; omega))
  rintro ⟨r, acc, first⟩ h1
  simp only at h1
  cases r with
  | nil => right; simp only [itemsV, List.map_nil, all_id, joinF]
  | cons x r =>
    left
    rw [sumL_cons, List.length_cons] at h1
    refine ⟨(r, acc ++ (if first then x else by' ++ x), false), ?_, by cases first <;> simp <;> omega, by simp, rfl⟩
    simp only [itemsV, List.map_cons, List.getElem?_cons_zero, Option.bind_some, lst_of, List.length_cons, List.length_nil, Nat.zero_add, if_true, bytesV_length, all_id]
    unfold F_text_asIs
    cases first with
    | true =>
      simp only [Bool.not_true, Bool.false_eq_true, if_false, Option.bind_some, if_true, bytesV_length]
      rw [if_pos (by omega), bytesV_append]
    | false =>
      simp only [Bool.not_false, if_true, Bool.false_eq_true, if_false, Option.bind_some]
      rw [if_pos (by omega)]
      simp only [Option.bind_some, List.length_append, bytesV_length]
      rw [if_pos (by omega), bytesV_append, bytesV_append, List.append_assoc]

theorem canon_eq (l : List UInt8) (h : l.length ≤ 500000000) : F_text_Canon (bytesV l) = some (bytesV (canonB l)) := by
  unfold F_text_Canon
  rw [show by8 [13, 10] = [13, 10] from rfl, join_eq l _ h (by simp)]; rfl
end Go.Proofs.YtffofdfikmpanaaDoor.A

namespace Go.Proofs.YtffofdfikmpanaaDoor.A
set_option linter.unusedVariables false
set_option linter.unusedSimpArgs false
set_option maxRecDepth 10000

/-- A line without blanks at its end. -/
def trimEnd (x : List UInt8) : List UInt8 := (x.reverse.dropWhile fun b => decide (b = 32) || decide (b = 9)).reverse
theorem trimEnd_len (x : List UInt8) : (trimEnd x).length ≤ x.length := by
  unfold trimEnd
  rw [List.length_reverse]
  have := (List.dropWhile_suffix (l := x.reverse) fun b => decide (b = 32) || decide (b = 9)).length_le
  rwa [List.length_reverse] at this
theorem trimRV_bytes (x : List UInt8) : trimRV [32, 9] (bytesV x) = bytesV (trimEnd x) := by
  unfold trimRV trimEnd
  have key : ∀ l : List UInt8, ((bytesV l).dropWhile fun v => [32, 9].any fun (c : UInt8) => v.isN c.toNat) = bytesV (l.dropWhile fun b => decide (b = 32) || decide (b = 9)) := by
    intro l
    induction l with
    | nil => rfl
    | cons b l ih =>
      have hc : ([32, 9].any fun (c : UInt8) => (byteV b).isN c.toNat) = (decide (b = 32) || decide (b = 9)) := by
        simp only [List.any_cons, List.any_nil, Bool.or_false]
        rw [show (((32 : UInt8).toNat : Nat) : Int) = ((32 : Nat) : Int) from rfl, show (((9 : UInt8).toNat : Nat) : Int) = ((9 : Nat) : Int) from rfl, isN_byte 32 (by omega), isN_byte 9 (by omega)]
        rfl
      show List.dropWhile _ (byteV b :: bytesV l) = _
      rw [List.dropWhile_cons, List.dropWhile_cons, hc]
      split
      · exact ih
      · rfl
  have hr : (bytesV x).reverse = bytesV x.reverse := by simp [bytesV]
  rw [hr, key]
  simp [bytesV]

theorem all_u8 (l : List UInt8) : List.all (bytesV l) V.isU8 = true := by
  rw [List.all_eq_true]
  intro v hv
  obtain ⟨b, _, rfl⟩ := List.mem_map.1 hv
  have := b.toNat_lt
  show (decide (0 ≤ (b.toNat : Int)) && decide ((b.toNat : Int) < 256)) = true
  simp; omega

theorem trim_eq (x : List UInt8) (h : x.length ≤ 2000000000) : F_text_Trim (bytesV x) = some (bytesV (trimEnd x)) := by
  have hl := trimEnd_len x
  unfold F_text_Trim
  rw [show by8 [32, 9] = [32, 9] from rfl, trimRV_bytes, all_u8, bytesV_length, decide_eq_true (p := x.length ≤ 4611686018427387904) (by omega)]
  rw [if_pos (by decide)]
  simp only [Option.bind_some, bytesV_length]
  rw [if_pos (by omega)]; rfl

theorem sumL_trim (l : List (List UInt8)) : sumL (l.map trimEnd) ≤ sumL l := by
  induction l with
  | nil => exact Nat.le_refl _
  | cons x l ih =>
    have := trimEnd_len x
    rw [List.map_cons, sumL_cons, sumL_cons]; omega

theorem joinT_eq (l by' : List UInt8) (h : l.length ≤ 500000000) (hb : by'.length ≤ 2) : F_text_join__text_Trim (bytesV l, by', PUnit.unit) = some (bytesV (joinB by' ((linesB l).map trimEnd))) := by
  have hz := lines_size l
  unfold F_text_join__text_Trim F_text_each
  simp only [Option.bind_some]
  rw [eachItems_bytes l (by omega)]
  simp only [Option.bind_some]
  rw [← joinF_true]
  generalize linesB l = ls at hz
  refine (loopO_run (ι := List (List UInt8) × List UInt8 × Bool) (fun i => (itemsV i.1, by', PUnit.unit, bytesV i.2.1, i.2.2)) (fun i => bytesV (joinF by' (i.1.map trimEnd) i.2.1 i.2.2))
    (fun i => i.2.1.length + sumL i.1 + 2 * i.1.length ≤ 2 * l.length + 2) (fun i => i.1.length) ?_ (ls, [], true) (by simp; omega))
  rintro ⟨r, acc, first⟩ h1
  simp only at h1
  cases r with
  | nil => right; simp only [itemsV, List.map_nil, all_id, joinF]
  | cons x r =>
    left
    have ht := trimEnd_len x
    rw [sumL_cons, List.length_cons] at h1
    refine ⟨(r, acc ++ (if first then trimEnd x else by' ++ trimEnd x), false), ?_, by cases first <;> simp <;> omega, by simp, rfl⟩
    simp only [itemsV, List.map_cons, List.getElem?_cons_zero, Option.bind_some, lst_of, List.length_cons, List.length_nil, Nat.zero_add, if_true, bytesV_length, all_id]
    rw [trim_eq x (by omega)]
    cases first with
    | true =>
      simp only [Bool.not_true, Bool.false_eq_true, if_false, Option.bind_some, if_true, bytesV_length]
      rw [if_pos (by omega), bytesV_append]
    | false =>
      simp only [Bool.not_false, if_true, Bool.false_eq_true, if_false, Option.bind_some]
      rw [if_pos (by omega)]
      simp only [Option.bind_some, List.length_append, bytesV_length]
      rw [if_pos (by omega), bytesV_append, bytesV_append, List.append_assoc]

def signedB (l : List UInt8) : List UInt8 := joinB [13, 10] ((linesB l).map trimEnd)
theorem signed_eq (l : List UInt8) (h : l.length ≤ 500000000) : F_text_Signed (bytesV l) = some (bytesV (signedB l)) := by
  unfold F_text_Signed
  rw [show by8 [13, 10] = [13, 10] from rfl, joinT_eq l _ h (by simp)]; rfl

theorem alive15 : F_affiantlaw15_alive PUnit.unit = some true := by
  have e1 := canon_eq [97, 10, 98] (by decide)
  have e2 := lines_eq [] (by decide)
  have e3 := signed_eq [97, 32, 13, 10, 98, 9] (by decide)
  unfold F_affiantlaw15_alive
  refine (congrArg (Option.bind · _) (a₂ := some true) (bind_to e1 ?_)).trans rfl
  rw [all_id, unbytes_bytesV]
  simp only [Option.bind_some]
  rw [if_pos (by decide +kernel)]
  refine bind_to e2 ?_
  rw [if_pos (by decide +kernel)]
  refine bind_to e3 ?_
  rw [all_id, unbytes_bytesV]
  exact congrArg some (by decide +kernel)

theorem cutB_count : ∀ l : List UInt8, ((cutB l).2 = none → l.count 10 = 0) ∧ ∀ r, (cutB l).2 = some r → l.count 10 = 1 + r.count 10
  | [] => ⟨fun _ => rfl, fun r h => by cases h⟩
  | b :: r => by
    obtain ⟨h1, h2⟩ := cutB_count r
    unfold cutB
    by_cases hb : b = 10
    · rw [if_pos hb]
      exact ⟨fun h => (by cases h), fun r' h => (by cases h; subst hb; rw [List.count_cons_self]; omega)⟩
    · rw [if_neg hb]
      have hc : (b :: r).count 10 = r.count 10 := List.count_cons_of_ne hb
      exact ⟨fun h => by rw [hc]; exact h1 h, fun r' h => by rw [hc]; exact h2 r' h⟩
theorem linesN_count : ∀ (n : Nat) (l : List UInt8), l.length ≤ n → (linesN n l).length = 1 + l.count 10
  | 0, l, h => by
    obtain rfl : l = [] := List.eq_nil_of_length_eq_zero (by omega)
    rfl
  | n + 1, l, h => by
    obtain ⟨h1, h2⟩ := cutB_count l
    unfold linesN
    cases hr : (cutB l).2 with
    | none => simp [h1 hr]
    | some r =>
      have := (cutB_len l).2 r hr
      dsimp only
      rw [List.length_cons, linesN_count n r (by omega), h2 r hr]; omega

theorem partsV_get (ls : List (List UInt8)) (i : Nat) (x : List UInt8) (h : ls[i]? = some x) : (ls.map fun x => V.sl false false 1 (bytesV x))[i]? = some (V.sl false false 1 (bytesV x)) := by simp [h]

theorem same15 (ls : List (List UInt8)) (h : ls.length ≤ 1000000) : F_affiantref15_Same (ls.map fun x => V.sl false false 1 (bytesV x), ls.map fun x => V.sl false false 1 (bytesV x)) = some true := by
  unfold F_affiantref15_Same
  simp only [bne_self_eq_false, Bool.false_eq_true, if_false]
  have hlen : len (ls.map fun x => V.sl false false 1 (bytesV x)) = (ls.length : Int) := by simp [len]
  refine loopO_run (ι := Nat) (fun i => (ls.map fun x => V.sl false false 1 (bytesV x), ls.map fun x => V.sl false false 1 (bytesV x), false, (i : Int))) (fun _ => true) (fun i => i ≤ ls.length) (fun i => ls.length - i) ?_ 0 (Nat.zero_le _)
  intro i hi
  dsimp only
  simp only [decide_eq_true_eq, hlen]
  by_cases hc : i < ls.length
  · left
    refine ⟨i + 1, ?_, hc, by omega, by trivial⟩
    have hg := partsV_get ls i ls[i] (List.getElem?_eq_getElem hc)
    rw [if_pos (by omega), if_pos (by omega), Int.toNat_natCast, hg]
    simp only [Option.bind_some, lst_of, unbytes_bytesV]
    rw [if_pos (by omega), if_neg (by simp), w64_in (by omega) (by omega)]; rfl
  · right
    rw [if_neg (by omega)]

theorem law_TextSame (b : List UInt8) : F_affiantlaw15_TextSame (bytesV b) = some true := by
  have al := alive15
  unfold F_affiantlaw15_TextSame
  simp only [len_bytesV, decide_eq_true_eq]
  by_cases hb : b.length ≤ 300
  · rw [if_neg (by omega), lines_eq b (by omega)]
    simp only [Option.bind_some]
    have hn := lines_size b
    have hno := lines_no10 b
    have hcnt : (linesB b).length = 1 + b.count 10 := linesN_count _ b (Nat.le_refl _)
    have hlv : ∀ x ∈ linesB b, x.length ≤ 1000 := fun x hx => by
      have := sum_le x _ hx; omega
    have hcan := canon_len b
    have hlen : len ((linesB b).map fun x => V.sl false false 1 (bytesV x)) = ((linesB b).length : Int) := by simp [len]
    refine loopO_run (ι := Nat) (fun i => (bytesV b, ((1 + (b.take i).count 10 : Nat) : Int), (i : Int))) (fun _ => true) (fun i => i ≤ b.length) (fun i => b.length - i) ?_ 0 (Nat.zero_le _)
    intro i hi
    dsimp only
    simp only [len_bytesV, decide_eq_true_eq]
    by_cases hc : i < b.length
    · left
      refine ⟨i + 1, ?_, hc, by omega, by trivial⟩
      have hcl : (b.take i).count 10 ≤ i := Nat.le_trans List.count_le_length (by simp; omega)
      rw [if_pos (by omega), if_pos (by omega), Int.toNat_natCast, bytesV_getD hc]
      simp only [Option.bind_some]
      have hv : V.int? .u8 (byteV (b.getD i 0)) = some ((b.getD i 0).toNat : Int) := by simp [V.int?, byteV]
      rw [hv]
      simp only [Option.bind_some, beq_iff_eq]
      have ht : (b.take (i + 1)).count 10 = (b.take i).count 10 + if b.getD i 0 = 10 then 1 else 0 := by
        rw [List.take_add_one, List.getElem?_eq_getElem hc, Option.toList_some, List.count_append, List.getD_eq_getElem?_getD, List.getElem?_eq_getElem hc, Option.getD_some, List.count_cons, List.count_nil]
        simp
      have he : ((b.getD i 0).toNat : Int) = 10 ↔ b.getD i 0 = 10 := by
        constructor
        · intro h
          apply UInt8.toNat_inj.1
          have : (b.getD i 0).toNat = 10 := by omega
          rw [this]; rfl
        · intro h; rw [h]; rfl
      by_cases h10 : b.getD i 0 = 10
      · rw [if_pos (he.2 h10)]
        simp only [Option.bind_some]
        rw [ht, if_pos h10, w64_in (by omega) (by omega), w64_in (by omega) (by omega)]
        simp only [Option.some.injEq, Sum.inl.injEq, Prod.mk.injEq, true_and]
        omega
      · rw [if_neg fun h => h10 (he.1 h)]
        simp only [Option.bind_some]
        rw [ht, if_neg h10, w64_in (by omega) (by omega)]
        rfl
    · right
      have hi : i = b.length := by omega
      subst hi
      rw [if_neg (by omega), List.take_length, ← hcnt]
      refine (congrArg (Option.bind · _) (loopO_run (ι := Nat) (fun i => (false, (linesB b).map fun x => V.sl false false 1 (bytesV x), (i : Int))) (fun _ => true) (fun i => i ≤ (linesB b).length) (fun i => (linesB b).length - i) ?_ 0 (Nat.zero_le _))).trans rfl
      intro i hi
      dsimp only
      rw [hlen]
      simp only [decide_eq_true_eq]
      by_cases hc : i < (linesB b).length
      · left
        have hg := partsV_get (linesB b) i (linesB b)[i] (List.getElem?_eq_getElem hc)
        have hmem : (linesB b)[i] ∈ linesB b := List.getElem_mem hc
        have hx := hlv _ hmem
        have h10 := hno _ hmem
        refine ⟨i + 1, ?_, hc, by omega, by trivial⟩
        rw [if_pos (by omega)]
        generalize (linesB b)[i] = x at hg hx h10
        refine (loopO_run (ι := Nat) (fun k => (false, (linesB b).map fun x => V.sl false false 1 (bytesV x), (i : Int), (k : Int))) (fun _ => Sum.inl (false, (linesB b).map fun x => V.sl false false 1 (bytesV x), ((i + 1 : Nat) : Int))) (fun k => k ≤ x.length) (fun k => x.length - k) ?_ 0 (Nat.zero_le _))
        intro k hk
        dsimp only
        have hcell : (V.cells (V.sl false false 1 (bytesV x)))[0]? = some (V.sl false false 1 (bytesV x)) := rfl
        rw [hlen, if_pos (by omega), Nat.zero_add, Int.toNat_natCast, hg]
        simp only [Option.bind_some, hcell, lst_of, len_bytesV, decide_eq_true_eq]
        by_cases hkx : k < x.length
        · left
          refine ⟨k + 1, ?_, hkx, by omega, by trivial⟩
          rw [if_pos (by omega), if_pos (by omega), if_pos (by omega), Int.toNat_natCast, bytesV_getD hkx]
          simp only [Option.bind_some]
          have hv : V.int? .u8 (byteV (x.getD k 0)) = some ((x.getD k 0).toNat : Int) := by simp [V.int?, byteV]
          rw [hv]
          simp only [Option.bind_some, beq_iff_eq]
          have hne : ¬ ((x.getD k 0).toNat : Int) = 10 := fun h => by
            have : x.getD k 0 = 10 := by
              apply UInt8.toNat_inj.1
              have : (x.getD k 0).toNat = 10 := by omega
              rw [this]; rfl
            apply h10
            rw [← this, List.getD_eq_getElem?_getD, List.getElem?_eq_getElem hkx]
            exact List.getElem_mem hkx
          rw [if_neg hne, w64_in (by omega) (by omega)]; rfl
        · right
          rw [if_neg (by omega), w64_in (by omega) (by omega)]; rfl
      · right
        rw [if_neg (by omega)]
        refine (congrArg (Option.bind · _) (a₂ := some true) ?_).trans rfl
        refine (congrArg (Option.bind · _) (a₂ := some true) ?_).trans rfl
        refine bind_to al ?_
        rw [if_pos rfl, if_pos (by simp)]
        refine bind_to (canon_eq b (by omega)) (bind_to (lines_eq (canonB b) (by omega)) ?_)
        rw [all_id, all_id, lines_canon]
        exact bind_to (same15 (linesB b) (by omega)) rfl
  · rw [if_pos (by omega), al]; rfl
end Go.Proofs.YtffofdfikmpanaaDoor.A
