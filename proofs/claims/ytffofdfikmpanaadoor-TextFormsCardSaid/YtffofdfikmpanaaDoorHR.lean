/- The law's row, closed. Conditions: none. -/
import Derived.Test.YtffofdfikmpanaaDoorChecked
import Derived.Shelf.Bytes.SlCut
import Derived.Shelf.Bytes.SlTrim
import Derived.Test.YtffofdfikmpanaaDoorLD
import Derived.RangeFuncKeeps
import Derived.Lib.SlBytesConst
import Derived.TacticsInMore
import Derived.OwnWalkIn
import Derived.LoopNIn
import Derived.LoopIn
import Derived.Test.YtffofdfikmpanaaDoorLE
import Derived.Laws.RangeString
import Derived.Laws.RangeAny
import Derived.LoopTactic
import Derived.Shelf.Bytes.SlTrimWalks
import Derived.Test.YtffofdfikmpanaaDoorG1
import Derived.Test.YtffofdfikmpanaaDoorTie
import Derived.Test.YtffofdfikmpanaaDoorCards
import Derived.SizedLaws
import Derived.Lay
import Derived.LaidOnce
import Derived.SevenTiedAt
import Derived.Test.YtffofdfikmpanaaDoorPR
set_option linter.unusedVariables false
set_option linter.unusedSimpArgs false
set_option linter.constructorNameAsVariable false
set_option linter.unusedSectionVars false

namespace Go.Proofs.YtffofdfikmpanaaDoor.A
open Go Go.Proofs Go.Shelf
def laysCut_ren : Go.Shelf.Ren := ⟨fun | 4 => 28 | 5 => 34 | 6 => 39 | 7 => 40 | 8 => 41 | 9 => 42 | 10 => 43 | 11 => 46 | 12 => 47 | n => n, fun | 22 => 22 | 4 => 4 | 3 => 3 | 0 => 0 | 5 => 5 | 29 => 56 | 9 => 9 | 31 => 58 | 30 => 57 | n => n, fun | 0 => 0 | n => n⟩
theorem laysCut : Go.Proofs.SlLaysT.n4 Tryd.prog laysCut_ren := {
  mixed := by kernel_rfl
  f4 := Tryd.func28.trans (congrArg some (by kernel_rfl))
  f5 := Tryd.func34.trans (congrArg some (by kernel_rfl))
  f6 := Tryd.func39.trans (congrArg some (by kernel_rfl))
  f7 := Tryd.func40.trans (congrArg some (by kernel_rfl))
  f8 := Tryd.func41.trans (congrArg some (by kernel_rfl))
  f9 := Tryd.func42.trans (congrArg some (by kernel_rfl))
  f10 := Tryd.func43.trans (congrArg some (by kernel_rfl))
  f11 := Tryd.func46.trans (congrArg some (by kernel_rfl))
  f12 := Tryd.func47.trans (congrArg some (by kernel_rfl))
  t0 := Tryd.underlying0
  a0 := Tryd.isAgg0
  z0 := Tryd.sizeOf0
  v0 := Tryd.zeroValue0
  t3 := Tryd.underlying3
  a3 := Tryd.isAgg3
  z3 := Tryd.sizeOf3
  v3 := Tryd.zeroValue3
  t4 := Tryd.underlying4
  a4 := Tryd.isAgg4
  z4 := Tryd.sizeOf4
  v4 := Tryd.zeroValue4
  t5 := Tryd.underlying5
  a5 := Tryd.isAgg5
  z5 := Tryd.sizeOf5
  v5 := Tryd.zeroValue5
  t9 := Tryd.underlying9
  a9 := Tryd.isAgg9
  z9 := Tryd.sizeOf9
  v9 := Tryd.zeroValue9
  t22 := Tryd.underlying22
  a22 := Tryd.isAgg22
  z22 := Tryd.sizeOf22
  v22 := Tryd.zeroValue22
  t29 := Tryd.underlying56
  a29 := Tryd.isAgg56
  z29 := Tryd.sizeOf56
  v29 := Tryd.zeroValue56
  t30 := Tryd.underlying57
  a30 := Tryd.isAgg57
  z30 := Tryd.sizeOf57
  v30 := Tryd.zeroValue57
  t31 := Tryd.underlying58
  a31 := Tryd.isAgg58
  z31 := Tryd.sizeOf58
  v31 := Tryd.zeroValue58
  g0 := by kernel_rfl }
def laysTS_ren : Go.Shelf.Ren := ⟨fun | 140 => 29 | 117 => 35 | 115 => 40 | n => n, fun | 37 => 22 | 4 => 4 | 3 => 3 | 9 => 9 | 5 => 5 | n => n, fun | n => n⟩
theorem laysTS : Go.Proofs.Lays.nb140 Tryd.prog laysTS_ren := {
  mixed := by kernel_rfl
  f115 := Tryd.func40.trans (congrArg some (by kernel_rfl))
  f117 := Tryd.func35.trans (congrArg some (by kernel_rfl))
  f140 := Tryd.func29.trans (congrArg some (by kernel_rfl))
  t3 := Tryd.underlying3
  a3 := Tryd.isAgg3
  z3 := Tryd.sizeOf3
  v3 := Tryd.zeroValue3
  t4 := Tryd.underlying4
  a4 := Tryd.isAgg4
  z4 := Tryd.sizeOf4
  v4 := Tryd.zeroValue4
  t9 := Tryd.underlying9
  a9 := Tryd.isAgg9
  z9 := Tryd.sizeOf9
  v9 := Tryd.zeroValue9
  t37 := Tryd.underlying22
  a37 := Tryd.isAgg22
  z37 := Tryd.sizeOf22
  v37 := Tryd.zeroValue22
  t5 := Tryd.underlying5
  a5 := Tryd.isAgg5
  z5 := Tryd.sizeOf5
  v5 := Tryd.zeroValue5 }
def laysTR_ren : Go.Shelf.Ren := ⟨fun | 7 => 22 | 10 => 30 | 11 => 31 | 13 => 32 | 15 => 33 | 16 => 36 | 19 => 37 | 18 => 38 | 21 => 44 | 17 => 45 | 20 => 48 | n => n, fun | 22 => 22 | 9 => 9 | 3 => 3 | 4 => 4 | 5 => 5 | 28 => 44 | 27 => 43 | 0 => 0 | 31 => 47 | 21 => 21 | 33 => 51 | 36 => 60 | 37 => 56 | 40 => 63 | 39 => 62 | n => n, fun | 0 => 1 | 1 => 2 | n => n⟩
theorem laysTR : Go.Proofs.SlLaysV.n7 Tryd.prog laysTR_ren := {
  mixed := by kernel_rfl
  f7 := Tryd.func22.trans (congrArg some (by kernel_rfl))
  f10 := Tryd.func30.trans (congrArg some (by kernel_rfl))
  f11 := Tryd.func31.trans (congrArg some (by kernel_rfl))
  f13 := Tryd.func32.trans (congrArg some (by kernel_rfl))
  f15 := Tryd.func33.trans (congrArg some (by kernel_rfl))
  f16 := Tryd.func36.trans (congrArg some (by kernel_rfl))
  f17 := Tryd.func45.trans (congrArg some (by kernel_rfl))
  f18 := Tryd.func38.trans (congrArg some (by kernel_rfl))
  f19 := Tryd.func37.trans (congrArg some (by kernel_rfl))
  f20 := Tryd.func48.trans (congrArg some (by kernel_rfl))
  f21 := Tryd.func44.trans (congrArg some (by kernel_rfl))
  t0 := Tryd.underlying0
  a0 := Tryd.isAgg0
  z0 := Tryd.sizeOf0
  v0 := Tryd.zeroValue0
  t3 := Tryd.underlying3
  a3 := Tryd.isAgg3
  z3 := Tryd.sizeOf3
  v3 := Tryd.zeroValue3
  t4 := Tryd.underlying4
  a4 := Tryd.isAgg4
  z4 := Tryd.sizeOf4
  v4 := Tryd.zeroValue4
  t5 := Tryd.underlying5
  a5 := Tryd.isAgg5
  z5 := Tryd.sizeOf5
  v5 := Tryd.zeroValue5
  t9 := Tryd.underlying9
  a9 := Tryd.isAgg9
  z9 := Tryd.sizeOf9
  v9 := Tryd.zeroValue9
  t21 := Tryd.underlying21
  a21 := Tryd.isAgg21
  z21 := Tryd.sizeOf21
  v21 := Tryd.zeroValue21
  t22 := Tryd.underlying22
  a22 := Tryd.isAgg22
  z22 := Tryd.sizeOf22
  v22 := Tryd.zeroValue22
  t27 := Tryd.underlying43
  a27 := Tryd.isAgg43
  z27 := Tryd.sizeOf43
  t28 := Tryd.underlying44
  a28 := Tryd.isAgg44
  z28 := Tryd.sizeOf44
  v28 := Tryd.zeroValue44
  t31 := Tryd.underlying47
  a31 := Tryd.isAgg47
  z31 := Tryd.sizeOf47
  v31 := Tryd.zeroValue47
  t33 := Tryd.underlying51
  a33 := Tryd.isAgg51
  z33 := Tryd.sizeOf51
  v33 := Tryd.zeroValue51
  t36 := Tryd.underlying60
  a36 := Tryd.isAgg60
  z36 := Tryd.sizeOf60
  t37 := Tryd.underlying56
  a37 := Tryd.isAgg56
  z37 := Tryd.sizeOf56
  v37 := Tryd.zeroValue56
  t39 := Tryd.underlying62
  a39 := Tryd.isAgg62
  z39 := Tryd.sizeOf62
  v39 := Tryd.zeroValue62
  t40 := Tryd.underlying63
  a40 := Tryd.isAgg63
  z40 := Tryd.sizeOf63
  v40 := Tryd.zeroValue63 }
end Go.Proofs.YtffofdfikmpanaaDoor.A

namespace Go.Proofs.YtffofdfikmpanaaDoor.A
open Go Go.Proofs Go.Shelf Go.RowKit
set_option linter.unusedVariables false

section
variable {P : Program} {ρ : Ren}
set_option maxHeartbeats 1000000 in
set_option maxRecDepth 100000 in
theorem indexByte_none (L : Lays.n187 P ρ) (c : Nat) (cv : Int) (w : World) :
    Calls P (ρ.f 187) #[.slice none 0 c, .int .u8 cv] w fun e w' => e = .returned (.int .i64 (-1)) ∧ w' = w := by
  have t3 := L.t3; have t5 := L.t5; have t37 := L.t37
  have a3 := L.a3; have a5 := L.a5; have a37 := L.a37
  have mixed := L.mixed; have z3 := L.z3; have v3 := L.v3; have z5 := L.z5; have v5 := L.v5; have z37 := L.z37; have v37 := L.v37
  go_enter L.f187, Body.n187_ntmps ρ
  go_wp2
  rw [run_callFunc_extern L.f255 (by kernel_rfl) (by kernel_rfl) (by kernel_rfl) (e := Extern.BytealgIndexByte.indexByte) (by kernel_rfl), Lib.run_indexByteNil w 0 c cv]
  simp only [Result.andThen]
  rw [Oper.upon_value]
  go_wp2
  go_ret
  exact ⟨rfl, rfl⟩

set_option maxHeartbeats 2000000 in
set_option maxRecDepth 1000000 in
theorem index_none (L : Lays.n185 P ρ) (c b2 o2 d : Nat) (cv : Int) (w : World) (hc2 : w.cell? ⟨b2, o2, none⟩ = some (.int .u8 cv)) :
    Calls P (ρ.f 185) #[.slice none 0 c, .slice (some ⟨b2, o2, none⟩) 1 d] w fun e w' => e = .returned (.int .i64 (-1)) ∧ w' = w := by
  have mixed := L.mixed; have t0 := L.t0; have a0 := L.a0; have z0 := L.z0; have v0 := L.v0; have t3 := L.t3; have a3 := L.a3; have z3 := L.z3; have v3 := L.v3; have t4 := L.t4; have a4 := L.a4; have z4 := L.z4; have v4 := L.v4; have t5 := L.t5; have a5 := L.a5; have z5 := L.z5; have v5 := L.v5; have t9 := L.t9; have a9 := L.a9; have z9 := L.z9; have v9 := L.v9; have t37 := L.t37; have a37 := L.a37; have z37 := L.z37; have v37 := L.v37; have t46 := L.t46; have a46 := L.a46; have z46 := L.z46; have v46 := L.v46; have t51 := L.t51; have a51 := L.a51; have z51 := L.z51; have v51 := L.v51; have t146 := L.t146; have a146 := L.a146; have z146 := L.z146; have v146 := L.v146; have g1 := L.g1
  have e187 : ∀ args w, (callFunc (ρ.f 187) args).run P w = .ok (.enter (ρ.f 187) args) w := enters_of L.f187 (by kernel_rfl) rfl
  go_enter L.f185, Body.n185_ntmps ρ
  go_wp2_with (go_at_fn (ρ.f 187); refine (indexByte_none (P := P) (ρ := ρ) { L with } c cv _).mono ?_; rintro e w' ⟨rfl, rfl⟩)
  go_ret
  exact ⟨rfl, rfl⟩
end

/-- bytes.Cut at the byte 10, whatever the address. -/
theorem cut_nl (p : Option Addr) (n c b2 o2 d : Nat) (xs : List Int) (w : World) (hx : xs.length = n) (hcap : n ≤ c) (hn : n ≤ 4611686018427387904) (h1 : Lib.BytesIn w p n xs) (hc2 : w.cell? ⟨b2, o2, none⟩ = some (.int .u8 10)) :
    Calls Tryd.prog 28 #[.slice p n c, .slice (some ⟨b2, o2, none⟩) 1 d] w fun e w' => e = .returned (Lib.cutV p n c 1 (Lib.indexByte (Lib.bytesOf xs) 10)) ∧ ∃ q, w' = w.drewN q := by
  have hlen : (Lib.bytesOf xs).length = n := by rw [Lib.bytesOf_length, hx]
  refine Any.bytes_Cut_of laysCut p (some ⟨b2, o2, none⟩) n c 1 d _ w hcap (Lib.indexByte_ge _ _) (fun h => ?_) hn ?_
  · obtain ⟨o, ho⟩ := Int.eq_ofNat_of_zero_le h
    have := (List.getElem?_eq_some_iff.1 (Lib.indexByte_some ho).1).1
    rw [ho]; rw [hlen] at this; omega
  · show Calls Tryd.prog (laysCut_ren.viaSlbt.f 185) _ _ _
    cases p with
    | none =>
      obtain rfl : n = 0 := by
        rcases Nat.eq_zero_or_pos n with h | h
        · exact h
        · obtain ⟨_, _, h, _⟩ := h1 h; cases h
      obtain rfl : xs = [] := List.eq_nil_of_length_eq_zero hx
      exact (index_none laysCut.index c b2 o2 d 10 w hc2).mono fun _ _ ⟨he, hw⟩ => ⟨he, 0, hw⟩
    | some a =>
      refine (Any.bytes_Index_one_at laysCut.index a n c b2 o2 d xs 10 w hx (fun i hi => ?_) hc2).mono fun _ _ ⟨he, hw⟩ => ⟨he, 0, hw⟩
      obtain ⟨b, o, he, hc⟩ := h1 (by omega)
      cases he
      rw [Go.WideShapes.add_plain]; exact hc i hi

/-- bytes.TrimSuffix of one byte. -/
theorem trim_one (p : Option Addr) (n c b2 o2 d : Nat) (xs : List Int) (v : Int) (w : World) (hx : xs.length = n) (hcap : n ≤ c) (hn : n ≤ 4611686018427387904) (h1 : Lib.BytesIn w p n xs) (hc2 : w.cell? ⟨b2, o2, none⟩ = some (.int .u8 v)) :
    Calls Tryd.prog 29 #[.slice p n c, .slice (some ⟨b2, o2, none⟩) 1 d] w fun e w' => e = .returned (Lib.trimSuffixV p n c xs [v]) ∧ w' = w :=
  Any.bytes_TrimSuffix_all laysTS p (some ⟨b2, o2, none⟩) n c 1 d xs [v] w hx rfl hcap (by omega) h1 fun _ => ⟨b2, o2, rfl, fun i hi => by
    have : i = 0 := by omega
    subst this
    exact hc2⟩
end Go.Proofs.YtffofdfikmpanaaDoor.A

namespace Go.Proofs.YtffofdfikmpanaaDoor.A
open Go Go.Proofs Go.RowKit
set_option linter.unusedVariables false
set_option linter.unusedSimpArgs false
attribute [local go_sem] Oper.semAt_some

def numOf : V → Int
  | .int _ n => n
  | _ => 0
theorem isU8_eq {v : V} (h : v.isU8 = true) : v = .int .u8 (numOf v) ∧ 0 ≤ numOf v ∧ numOf v < 256 := by
  unfold V.isU8 at h
  split at h
  · rw [Bool.and_eq_true, decide_eq_true_eq, decide_eq_true_eq] at h
    exact ⟨rfl, h.1, h.2⟩
  · cases h
theorem isN_iff {v : V} (h : v.isU8 = true) (m : Int) : v.isN m = true ↔ numOf v = m := by
  unfold V.isU8 at h
  split at h
  · simp [V.isN, numOf]
  · cases h

/-- The bytes of values that are bytes. -/
def numsV (l : List V) : List Int := l.map numOf
theorem numsV_length (l : List V) : (numsV l).length = l.length := by simp [numsV]

theorem ofNat_eq {n : Int} (h0 : 0 ≤ n) (h1 : n < 256) (m : Nat) (hm : m < 256) : UInt8.ofNat n.toNat = UInt8.ofNat m ↔ n = m := by
  constructor
  · intro h
    have := congrArg UInt8.toNat h
    simp only [UInt8.toNat_ofNat'] at this
    omega
  · rintro rfl; simp

theorem cutV_index : ∀ {l : List V}, (∀ v ∈ l, v.isU8 = true) →
    ((cutV l).2 = none → (cutV l).1 = l ∧ Lib.indexByte (Lib.bytesOf (numsV l)) 10 = -1) ∧
    (∀ r, (cutV l).2 = some r → (∃ v, l = (cutV l).1 ++ v :: r) ∧ Lib.indexByte (Lib.bytesOf (numsV l)) 10 = ((cutV l).1.length : Nat))
  | [], _ => ⟨fun _ => ⟨rfl, rfl⟩, fun r h => by cases h⟩
  | v :: l, hu => by
    have hv := hu v (by simp)
    obtain ⟨i1, i2⟩ := cutV_index (l := l) fun x hx => hu x (by simp [hx])
    obtain ⟨he, h0, h1⟩ := isU8_eq hv
    have hb : Lib.bytesOf (numsV (v :: l)) = UInt8.ofNat (numOf v).toNat :: Lib.bytesOf (numsV l) := rfl
    have h10 : (UInt8.ofNat (numOf v).toNat == (10 : UInt8)) = v.isN 10 := by
      rw [Bool.eq_iff_iff, beq_iff_eq, isN_iff hv]
      exact ofNat_eq h0 h1 10 (by omega)
    rw [hb]
    unfold Lib.indexByte
    rw [h10]
    unfold cutV
    cases hn : v.isN 10 with
    | true =>
      refine ⟨fun h => by simp at h, fun r h => ?_⟩
      simp only [if_true, Option.some.injEq] at h
      subst h
      exact ⟨⟨v, by simp⟩, by simp⟩
    | false =>
      simp only [Bool.false_eq_true, if_false]
      refine ⟨fun h => ?_, fun r h => ?_⟩
      · obtain ⟨j1, j2⟩ := i1 h
        exact ⟨by rw [j1], by rw [j2]; rfl⟩
      · obtain ⟨⟨x, j1⟩, j2⟩ := i2 r h
        refine ⟨⟨x, by rw [List.cons_append, ← j1]⟩, ?_⟩
        rw [j2, if_neg (by simp)]
        simp

theorem trimV_value {p : Option Addr} {c : Nat} {l : List V} (hu : ∀ v ∈ l, v.isU8 = true) (hp : 0 < l.length → ∃ b o, p = some ⟨b, o, none⟩) :
    Lib.trimSuffixV p l.length c (numsV l) [13] = .slice p (trimV l).length c := by
  rcases List.eq_nil_or_concat l with rfl | ⟨l', v, rfl⟩
  · unfold Lib.trimSuffixV
    split
    · rename_i b o y ys h1 h2
      cases h2
      rfl
    · rfl
  · rw [List.concat_eq_append] at hu hp ⊢
    obtain ⟨b, o, rfl⟩ := hp (by simp)
    have hv := hu v (by simp)
    obtain ⟨he, h0, h1⟩ := isU8_eq hv
    have hs : Lib.hasSuffix (Lib.bytesOf (numsV (l' ++ [v]))) (Lib.bytesOf [13]) = v.isN 13 := by
      rw [Bool.eq_iff_iff, isN_iff hv]
      unfold Lib.hasSuffix
      rw [List.isSuffixOf_iff_suffix]
      have hb : Lib.bytesOf (numsV (l' ++ [v])) = Lib.bytesOf (numsV l') ++ [UInt8.ofNat (numOf v).toNat] := by simp [Lib.bytesOf, numsV]
      have h13 : Lib.bytesOf [13] = [(13 : UInt8)] := rfl
      rw [hb, h13]
      have : [(13 : UInt8)] <:+ Lib.bytesOf (numsV l') ++ [UInt8.ofNat (numOf v).toNat] ↔ UInt8.ofNat (numOf v).toNat = UInt8.ofNat 13 := by
        constructor
        · rintro ⟨t, ht⟩
          have := congrArg List.getLast? ht
          simpa using this.symm
        · intro h; rw [h]; exact ⟨_, rfl⟩
      rw [this]
      exact ofNat_eq h0 h1 13 (by omega)
    show Lib.bytesTrimSuffix b o (l' ++ [v]).length c (numsV (l' ++ [v])) [13] = _
    unfold Lib.bytesTrimSuffix
    rw [hs]
    unfold trimV
    simp only [List.getLast?_append, List.getLast?_singleton, Option.some_or]
    cases v.isN 13 with
    | true => simp [Lib.sliceTo]
    | false => rfl

/-- A list's bytes at an address. -/
structure Lst (w : World) (Z : Nat → Prop) (p : Option Addr) (c : Nat) (l : List V) : Prop where
  cap : l.length ≤ c
  u8 : ∀ v ∈ l, v.isU8 = true
  pos : ∀ (i : Nat) (v : V), l[i]? = some v → ∃ b o, p = some ⟨b, o, none⟩ ∧ Z b ∧ w.cell? ⟨b, o + i, none⟩ = some (.int .u8 (numOf v))

theorem cutV_pre {l r : List V} (hu : ∀ v ∈ l, v.isU8 = true) (h : (cutV l).2 = some r) : (cutV l).1.length + 1 + r.length = l.length ∧ (∀ (i : Nat), i < (cutV l).1.length → (cutV l).1[i]? = l[i]?) ∧ ∀ i : Nat, r[i]? = l[(cutV l).1.length + 1 + i]? := by
  obtain ⟨v, hv⟩ := ((cutV_index hu).2 r h).1
  clear hu h
  generalize (cutV l).1 = a at hv ⊢
  subst hv
  refine ⟨by simp; omega, fun i hi => by rw [List.getElem?_append_left hi], fun i => ?_⟩
  rw [List.getElem?_append_right (by omega), show a.length + 1 + i - a.length = i + 1 by omega]
  rfl

/-- The address of what is behind j bytes. -/
def nextA (p : Option Addr) (c j : Nat) : Option Addr := if c = j then p else p.map (fun x => x.add j)

/-- The lines, as the model's values. -/
def eachC : Nat → Option Addr → Nat → List V → List (List Value)
  | 0, p, c, l => [[.slice p l.length c]]
  | f + 1, p, c, l => match (cutV l).2 with
    | some r => [.slice p (trimV (cutV l).1).length c] :: eachC f (nextA p c ((cutV l).1.length + 1)) (c - ((cutV l).1.length + 1)) r
    | none => [[.slice p (cutV l).1.length c]]

theorem eachC_length : ∀ {f : Nat} {p : Option Addr} {c : Nat} {l : List V}, (eachC f p c l).length = (eachL f l).length
  | 0, _, _, _ => rfl
  | f + 1, p, c, l => by
    simp only [eachC, eachL]
    cases (cutV l).2 with
    | some r => simp [eachC_length (f := f)]
    | none => rfl

theorem Lst.next {w : World} {Z : Nat → Prop} {p : Option Addr} {c : Nat} {l r : List V} (h : Lst w Z p c l) (hr : (cutV l).2 = some r) : Lst w Z (nextA p c ((cutV l).1.length + 1)) (c - ((cutV l).1.length + 1)) r := by
  obtain ⟨h1, h2, h3⟩ := cutV_pre h.u8 hr
  refine ⟨by have := h.cap; omega, fun v hv => ?_, fun i v hv => ?_⟩
  · obtain ⟨i, hi⟩ := List.getElem?_of_mem hv
    rw [h3] at hi
    exact h.u8 v (List.mem_of_getElem? hi)
  · have hi : i < r.length := (List.getElem?_eq_some_iff.1 hv).1
    rw [h3] at hv
    obtain ⟨b, o, rfl, hz, hc⟩ := h.pos _ v hv
    refine ⟨b, o + ((cutV l).1.length + 1), ?_, hz, by rw [Nat.add_assoc]; exact hc⟩
    unfold nextA
    rw [if_neg (by have := h.cap; omega), Option.map_some, Go.WideShapes.add_plain]

theorem Lst.bytesIn {w W : World} {Z : Nat → Prop} {p : Option Addr} {c : Nat} {l : List V} (h : Lst w Z p c l) (hW : ∀ b, Z b → W.heap[b]? = w.heap[b]?) : Lib.BytesIn W p l.length (numsV l) := fun hn => by
  obtain ⟨b, o, he, _, _⟩ := h.pos 0 l[0] (List.getElem?_eq_getElem hn)
  refine ⟨b, o, he, fun i hi => ?_⟩
  obtain ⟨b', o', he', hz, hc⟩ := h.pos i l[i] (List.getElem?_eq_getElem hi)
  rw [he] at he'; cases he'
  rw [World.cell?_of_block (w := w) (hW b hz), hc]
  simp [numsV, hi]

theorem Lst.pre {w : World} {Z : Nat → Prop} {p : Option Addr} {c : Nat} {l r : List V} (h : Lst w Z p c l) (hr : (cutV l).2 = some r) : Lst w Z p c (cutV l).1 := by
  obtain ⟨h1, h2, h3⟩ := cutV_pre h.u8 hr
  refine ⟨by have := h.cap; omega, fun v hv => ?_, fun i v hv => ?_⟩
  · obtain ⟨i, hi⟩ := List.getElem?_of_mem hv
    rw [h2 i (List.getElem?_eq_some_iff.1 hi).1] at hi
    exact h.u8 v (List.mem_of_getElem? hi)
  · rw [h2 i (List.getElem?_eq_some_iff.1 hv).1] at hv
    exact h.pos i v hv

/-- How much is left: what stands in the closure's cell. -/
def restLen (bc : Nat) (wr : World) : Nat := match wr.heap[bc]? with
  | some (.cells vs _ _) => (match (vs[0]? : Option Value) with
    | some (Value.slice _ n _) => n
    | _ => 0)
  | _ => 0
theorem restLen_eq {bc : Nat} {wr : World} {p : Option Addr} {n c : Nat} {ty : TypeId} {fz : Nat × Nat} (h : wr.heap[bc]? = some (.cells #[.slice p n c] ty fz)) : restLen bc wr = n := by
  unfold restLen; rw [h]; rfl

set_option maxRecDepth 100000 in
set_option maxHeartbeats 2000000 in
theorem each_iter {w : World} {ty : TypeId} {Z Fg : Nat → Prop} {bc : Nat} {p0 : Option Addr} {c0 : Nat} {l0 : List V} (hZ : ∀ b, Z b → b < w.heap.size) (hF : ∀ b, Fg b → b < w.heap.size ∧ ¬ Z b) (hbc : Fg bc) (hn0 : l0.length ≤ 4611686018427387904)
    (hcell : w.heap[bc]? = some (.cells #[.slice p0 l0.length c0] ty (0, 0))) (hl0 : Lst w Z p0 c0 l0) :
    IteratesO Tryd.prog 27 [.pointer (some ⟨bc, 0, none⟩)] (eachC l0.length p0 c0 l0) w Z Fg := by
  intro l J Jx W hW hFW hJ hJx hK hY h0
  refine callsIn_of_wp Tryd.func27 rfl trivial ?_ rfl
  simp only [Tryd.ntmps27, List.size_toArray, List.length_cons, List.length_nil, Nat.reduceAdd, Nat.reduceSub, Array.replicate_succ, Array.replicate_zero, List.push_toArray, List.append_toArray, List.nil_append, List.cons_append]
  show Code.wpIn _ _ _ (.block 0 (.loop _)) _ _ _
  refine wpIn_block ?_
  gi_loopw [3] (fun _ wr => ∃ (k f : Nat) (p : Option Addr) (c : Nat) (l : List V), (eachC l0.length p0 c0 l0).drop k = eachC f p c l ∧ l.length ≤ f ∧ l.length ≤ 4611686018427387904 ∧ J k wr ∧
      wr.heap[bc]? = some (.cells #[.slice p l.length c] ty (0, 0)) ∧ Lst w Z p c l)
    (fun _ (wr : World) => restLen bc wr)
  case atStart =>
    exact ⟨0, l0.length, p0, c0, l0, rfl, Nat.le_refl _, hn0, h0, by rw [hFW bc hbc]; exact hcell, hl0⟩
  case round =>
    obtain ⟨k, f, p, c, l, hd, hf, hn, hj, hb, hl⟩ := hrel
    have hcw : wr.cell? ⟨bc, 0, none⟩ = some (.slice p l.length c) := by rw [cell_row hb]; rfl
    have hmu := restLen_eq hb
    have hcv10 := fun W => Lib.run_convert_bytes_const (P := Tryd.prog) W 22 5 #[.int .u8 10] 1 1 Tryd.underlying22 Tryd.underlying5
    have hcv13 := fun W => Lib.run_convert_bytes_const (P := Tryd.prog) W 22 5 #[.int .u8 13] 1 1 Tryd.underlying22 Tryd.underlying5
    have hz : ∀ b, Z b → wr.heap[b]? = w.heap[b]? := fun b hb => (hK k wr hj).2 b hb
    have hsz : W.heap.size ≤ wr.heap.size := (hK k wr hj).1
    have hbl : bc < wr.heap.size := (Array.getElem?_eq_some_iff.1 hb).1
    have hzl : ∀ b, Z b → b < wr.heap.size → (wr.alloc (.cells #[.int .u8 10] 5 (1, 2))).heap[b]? = w.heap[b]? := fun b hb hlt => (RowKit.Below.heap_alloc _ _ _ hlt).trans (hz b hb)
    have h10 : (wr.alloc (.cells #[.int .u8 10] 5 (1, 2))).cell? ⟨wr.heap.size, 0, none⟩ = some (.int .u8 10) := by rw [cell_row (World.alloc_heap_new wr _)]; rfl
    have hj10 : ∀ q, J k ((wr.alloc (.cells #[.int .u8 10] 5 (1, 2))).drewN q) := fun q => hJ k wr _ hj ⟨rfl, rfl, rfl, by simp [World.drewN], fun b hb _ => RowKit.Below.heap_alloc _ _ _ hb⟩
    have hbi : Lib.BytesIn (wr.alloc (.cells #[.int .u8 10] 5 (1, 2))) p l.length (numsV l) := by
      have h1 := hl.bytesIn hz
      intro hn
      obtain ⟨b, o, he, hc⟩ := h1 hn
      exact ⟨b, o, he, fun i hi => Lib.cell?_alloc_marked _ (hc i hi)⟩
    have hcut := cut_nl p l.length c wr.heap.size 0 1 (numsV l) _ (numsV_length l) hl.cap hn hbi h10
    cases hr : (cutV l).2 with
    | none =>
      obtain ⟨hpre, hix⟩ := (cutV_index hl.u8).1 hr
      have hec : eachC f p c l = [[.slice p l.length c]] := by
        cases f with
        | zero => rfl
        | succ f => simp only [eachC, hr, hpre]
      have hget : (eachC l0.length p0 c0 l0)[k]? = some [.slice p l.length c] := by
        have := congrArg (·[0]?) hd
        simpa [hec] using this
      rw [hix, show Lib.cutV p l.length c 1 (-1) = .tuple #[.slice p l.length c, .slice none 0 0, .bool false] from rfl] at hcut
      gi_wp2
      refine ⟨trivial, rfl, CallsIn.mono ((callsIn_wide (n := 0)).2 hcut) ?_⟩
      rintro e W2 ⟨rfl, q, hW2⟩
      have hj2 : J k W2 := hW2 ▸ hj10 q
      clear hW2
      obtain ⟨fn, tmps, assign, body, hy, hR⟩ := hY k _ _ hget hj2
      gi_wp2
      refine ⟨rfl, hR.mono ?_⟩
      rintro e W3 ⟨_, (⟨rfl, hJ3⟩ | ⟨rfl, hJx3⟩)⟩
      · gi_wp2
        refine bodyPost_ret (results_none rfl _ _ _) rfl ?_
        refine ⟨⟨_, rfl⟩, .inl ?_⟩
        have : (eachC l0.length p0 c0 l0).length = k + 1 := by
          have h1 := congrArg List.length hd
          have h2 := (List.getElem?_eq_some_iff.1 hget).1
          rw [hec] at h1
          simp at h1; omega
        rw [this]; exact hJ3
      · gi_wp2
        refine bodyPost_ret (results_none rfl _ _ _) rfl ?_
        exact ⟨⟨_, rfl⟩, .inr hJx3⟩
    | some r =>
      obtain ⟨_, hix⟩ := (cutV_index hl.u8).2 r hr
      obtain ⟨hlen, _, _⟩ := cutV_pre hl.u8 hr
      have hla := hl.pre hr
      have hln := hl.next hr
      obtain ⟨f, rfl⟩ : ∃ f', f = f' + 1 := ⟨f - 1, by omega⟩
      have hec : eachC (f + 1) p c l = [.slice p (trimV (cutV l).1).length c] :: eachC f (nextA p c ((cutV l).1.length + 1)) (c - ((cutV l).1.length + 1)) r := by simp only [eachC, hr]
      rw [hec] at hd
      have hget : (eachC l0.length p0 c0 l0)[k]? = some [.slice p (trimV (cutV l).1).length c] := by
        have := congrArg (·[0]?) hd
        simpa using this
      have hd2 : (eachC l0.length p0 c0 l0).drop (k + 1) = eachC f (nextA p c ((cutV l).1.length + 1)) (c - ((cutV l).1.length + 1)) r := by
        rw [← List.drop_drop, hd]; rfl
      have hrl : l.length - ((cutV l).1.length + 1) = r.length := by omega
      rw [hix, show Lib.cutV p l.length c 1 (((cutV l).1.length : Nat) : Int) = .tuple #[.slice p (cutV l).1.length c, .slice (nextA p c ((cutV l).1.length + 1)) r.length (c - ((cutV l).1.length + 1)), .bool true] by
        unfold Lib.cutV Lib.fromV nextA; rw [if_pos (by omega), Int.toNat_natCast, hrl]] at hcut
      generalize (cutV l).1 = a at *
      gi_wp2
      refine ⟨trivial, rfl, CallsIn.mono ((callsIn_wide (n := 0)).2 hcut) ?_⟩
      rintro e W2 ⟨rfl, q, hW2⟩
      have hj2 : J k W2 := hW2 ▸ hj10 q
      have hb2 : W2.heap[bc]? = some (.cells #[.slice p l.length c] ty (0, 0)) := by rw [hW2]; exact (RowKit.Below.heap_alloc _ _ _ hbl).trans hb
      clear hW2
      have hsz2 := (hK k W2 hj2).1
      have hz2 : ∀ b, Z b → (W2.alloc (.cells #[.int .u8 13] 5 (1, 2))).heap[b]? = w.heap[b]? := fun b hb => (RowKit.Below.heap_alloc _ _ _ (by have := hZ b hb; omega)).trans ((hK k W2 hj2).2 b hb)
      have h13 : (W2.alloc (.cells #[.int .u8 13] 5 (1, 2))).cell? ⟨W2.heap.size, 0, none⟩ = some (.int .u8 13) := by rw [cell_row (World.alloc_heap_new W2 _)]; rfl
      have htrim := trim_one p a.length c W2.heap.size 0 1 (numsV a) 13 _ (numsV_length a) hla.cap (by omega) (hla.bytesIn hz2) h13
      rw [trimV_value hla.u8 (fun hn => by obtain ⟨b, o, he, _⟩ := hla.bytesIn hz2 hn; exact ⟨b, o, he⟩)] at htrim
      gi_wp2
      refine ⟨trivial, rfl, CallsIn.mono ((callsIn_wide (n := 0)).2 htrim) ?_⟩
      rintro e W3 ⟨rfl, hW3⟩
      have hj3 : J k W3 := hJ k W2 _ hj2 (hW3 ▸ ⟨rfl, rfl, rfl, by simp, fun b hb _ => RowKit.Below.heap_alloc _ _ _ hb⟩)
      have hb3 : W3.heap[bc]? = some (.cells #[.slice p l.length c] ty (0, 0)) := by rw [hW3]; exact (RowKit.Below.heap_alloc _ _ _ (Array.getElem?_eq_some_iff.1 hb2).1).trans hb2
      clear hW3
      obtain ⟨fn, tmps, assign, body, hy, hR⟩ := hY k _ _ hget hj3
      gi_wp2
      refine ⟨rfl, hR.mono ?_⟩
      rintro e W4 ⟨hfg, (⟨rfl, hJ4⟩ | ⟨rfl, hJx4⟩)⟩
      · have hb4 := (hfg bc hbc).trans hb3
        have hc4 : W4.cell? ⟨bc, 0, none⟩ = some (.slice p l.length c) := by rw [cell_row hb4]; rfl
        have hfz : W4.frozen? ⟨bc, 0, none⟩ = false := by simp only [World.frozen?, hb4]; simp
        gi_wp2
        have hone := one_setCell (u := .slice (nextA p c (a.length + 1)) r.length (c - (a.length + 1))) hb4
        refine ⟨⟨k + 1, f, _, _, r, hd2, by omega, by omega, hJ _ W4 _ hJ4 ⟨rfl, rfl, rfl, by simp, fun b hb hn => Below.heap_setCell _ _ _ _ fun e => hn (by rw [e]; exact hbc)⟩, hone, hln⟩, ?_⟩
        rw [restLen_eq hone, hmu]
        omega
      · gi_wp2
        refine bodyPost_ret (results_none rfl _ _ _) rfl ?_
        exact ⟨⟨_, rfl⟩, .inr hJx4⟩

theorem Lst.sub {w : World} {Z : Nat → Prop} {p : Option Addr} {c : Nat} {l y : List V} (h : Lst w Z p c l) (hy : ∀ (i : Nat) (v : V), y[i]? = some v → l[i]? = some v) : Lst w Z p c y := by
  refine ⟨?_, fun v hv => ?_, fun i v hv => h.pos i v (hy i v hv)⟩
  · have hc := h.cap
    rcases Nat.lt_or_ge l.length y.length with hlt | hge
    · have := hy l.length _ (List.getElem?_eq_getElem hlt)
      have := (List.getElem?_eq_some_iff.1 this).1
      omega
    · omega
  · obtain ⟨i, hi⟩ := List.getElem?_of_mem hv
    exact h.u8 v (List.mem_of_getElem? (hy i v hi))

theorem trimV_sub (l : List V) (i : Nat) (v : V) (h : (trimV l)[i]? = some v) : l[i]? = some v := by
  unfold trimV at h
  split at h
  · split at h
    · rw [List.getElem?_dropLast] at h
      split at h
      · exact h
      · cases h
    · exact h
  · exact h

theorem Lst.rep {w : World} {Zs Zx : Nat → Prop} {s : Bool} {p : Option Addr} {c : Nat} {x : List V} (h : Lst w (fun b => if s then Zx b else Zs b) p c x) : PRep w Zs Zx (.sl s false 1 x) (.slice p x.length c) := by
  cases hx : x with
  | nil => exact .sl0 s false 1 p c (by simp)
  | cons v0 r =>
    rw [← hx]
    obtain ⟨b, o, rfl, hz, _⟩ := h.pos 0 v0 (by rw [hx]; rfl)
    have hcl : ∀ (i : Nat) (e : V), x[i]? = some e → e.cells = [e] := fun i e he => by
      rw [(isU8_eq (h.u8 e (List.mem_of_getElem? he))).1]; rfl
    have one : ∀ (i j : Nat) (e v : V), x[i]? = some e → e.cells[j]? = some v → j = 0 ∧ v = e := fun i j e v he hv => by
      rw [hcl i e he] at hv
      cases j with
      | zero => cases hv; exact ⟨rfl, rfl⟩
      | succ j => simp at hv
    have cell : ∀ (i : Nat) (e : V), x[i]? = some e → w.cell? ⟨b, o + i * 1 + 0, none⟩ = some (.int .u8 (numOf e)) := fun i e he => by
      obtain ⟨b', o', he', _, hc⟩ := h.pos i e he
      cases he'
      rw [Nat.mul_one, Nat.add_zero]; exact hc
    refine .sl s false 1 x b o c (by simp) h.cap hz (fun i e he => by rw [hcl i e he]; rfl) (fun i j e v he hv => ?_) (fun i j e v he hv => ?_) fun i j e v c' he hv hc' => ?_
    · obtain ⟨_, rfl⟩ := one i j e v he hv
      rw [(isU8_eq (h.u8 v (List.mem_of_getElem? he))).1]; rfl
    · obtain ⟨rfl, rfl⟩ := one i j e v he hv
      exact ⟨_, cell i v he⟩
    · obtain ⟨rfl, rfl⟩ := one i j e v he hv
      rw [cell i v he] at hc'
      cases hc'
      have := (isU8_eq (h.u8 v (List.mem_of_getElem? he))).1
      rw [this]
      exact .int _ _

theorem each_rep {w : World} {Zs Zx : Nat → Prop} {s : Bool} : ∀ {f : Nat} {p : Option Addr} {c : Nat} {l : List V}, Lst w (fun b => if s then Zx b else Zs b) p c l → ∀ (i : Nat) (x : List V) (e : List Value), (eachL f l)[i]? = some x → (eachC f p c l)[i]? = some e →
    ∃ v, e = [v] ∧ PRep w Zs Zx (.sl s false 1 x) v
  | 0, p, c, l, h, i, x, e, hx, he => by
    cases i with
    | zero => simp only [eachL, eachC, List.getElem?_cons_zero, Option.some.injEq] at hx he; subst hx; subst he; exact ⟨_, rfl, h.rep⟩
    | succ i => simp [eachL] at hx
  | f + 1, p, c, l, h, i, x, e, hx, he => by
    simp only [eachL, eachC] at hx he
    cases hr : (cutV l).2 with
    | some r =>
      rw [hr] at hx he
      dsimp only at hx he
      cases i with
      | zero =>
        simp only [List.getElem?_cons_zero, Option.some.injEq] at hx he
        subst hx; subst he
        exact ⟨_, rfl, ((h.pre hr).sub (trimV_sub _)).rep⟩
      | succ i =>
        simp only [List.getElem?_cons_succ] at hx he
        exact each_rep (h.next hr) i x e hx he
    | none =>
      rw [hr] at hx he
      dsimp only at hx he
      cases i with
      | zero =>
        simp only [List.getElem?_cons_zero, Option.some.injEq] at hx he
        subst hx; subst he
        have := ((cutV_index h.u8).1 hr).1
        rw [this]
        exact ⟨_, rfl, h.rep⟩
      | succ i => simp at hx

theorem Lst.mono {w : World} {Z Z' : Nat → Prop} {p : Option Addr} {c : Nat} {l : List V} (h : Lst w Z p c l) (hz : ∀ b, Z b → Z' b) : Lst w Z' p c l :=
  ⟨h.cap, h.u8, fun i v hv => by obtain ⟨b, o, h1, h2, h3⟩ := h.pos i v hv; exact ⟨b, o, h1, hz b h2, h3⟩⟩

/-- A RANGE OVER A TEXT'S LINES. -/
theorem each_sound {s ex : Bool} {ty : TypeId} {es : List V} {items : List (List V)} (hi : eachItems s es = some items) {w : World} {Zs Zx : Nat → Prop} {c : Value} {Fg : Nat → Prop}
    (hT : TRep Tryd.prog w Zs Zx none (.opt ty [.p (.sl s ex 1 es)]) c Fg) (hsx : ∀ b, Zs b → Zx b) (hZ : ∀ b, Zx b → b < w.heap.size) (hF : ∀ b, Fg b → b < w.heap.size ∧ ¬ Zx b) :
    ∃ encs : List (List Value), encs.length = items.length ∧ (∀ (i : Nat) (x : List V) (e : List Value), items[i]? = some x → encs[i]? = some e → e.length = x.length ∧ ∀ (k : Nat) (v : V) (c : Value), x[k]? = some v → e[k]? = some c → PRep w Zs Zx v c) ∧
      IteratesO Tryd.prog 27 [c] encs w Zx Fg := by
  unfold eachItems at hi
  split at hi
  · rename_i hh
    rw [Bool.and_eq_true, decide_eq_true_eq] at hh
    obtain ⟨hlen, hu⟩ := hh
    cases hi
    have hu : ∀ v ∈ es, v.isU8 = true := List.all_eq_true.1 hu
    cases hT with
    | opt _ _ _ b vs _ G hw0 hl h1 h hFF hb hd =>
      obtain ⟨vs⟩ := vs
      obtain ⟨c0, rfl⟩ : ∃ c0, vs = [c0] := List.length_eq_one_iff.1 (by simpa using hl.symm)
      have hp := h 0 _ c0 rfl rfl
      have main : ∀ (p : Option Addr) (cap : Nat), c0 = .slice p es.length cap → Lst w (fun b => if s then Zx b else Zs b) p cap es → _ := fun p cap hc0 hls =>
        (⟨eachC es.length p cap es, by rw [eachC_length, List.length_map], fun i x e hx he => by
          rw [List.getElem?_map, Option.map_eq_some_iff] at hx
          obtain ⟨l, hl, rfl⟩ := hx
          obtain ⟨v, rfl, hv⟩ := each_rep hls i l e hl he
          refine ⟨rfl, fun k v' c' hk hc' => ?_⟩
          cases k with
          | zero => cases hk; cases hc'; exact hv
          | succ k => simp at hk, each_iter hZ hF ((hFF b).2 (.inl rfl)) hlen (by rw [hw0, hc0]) (hls.mono fun b hb => by cases s; exact hsx b hb; exact hb)⟩ :
          ∃ encs : List (List Value), encs.length = ((eachL es.length es).map fun l => [V.sl s false 1 l]).length ∧ (∀ (i : Nat) (x : List V) (e : List Value), ((eachL es.length es).map fun l => [V.sl s false 1 l])[i]? = some x → encs[i]? = some e → e.length = x.length ∧ ∀ (k : Nat) (v : V) (c : Value), x[k]? = some v → e[k]? = some c → PRep w Zs Zx v c) ∧
            IteratesO Tryd.prog 27 [.pointer (some ⟨b, 0, none⟩)] encs w Zx Fg)
      cases hp with
      | p _ _ _ _ hp _ =>
        generalize hes : es = es' at hp
        cases hp with
        | sl0 _ _ _ a cap he =>
          subst hes
          exact main a cap rfl ⟨by simp, by simp, fun i v hv => by simp at hv⟩
        | sl _ _ _ _ b2 off cap he hc hz hcl h1' hd2 h2 =>
          subst hes
          refine main _ cap rfl ⟨hc, hu, fun i v hv => ?_⟩
          obtain ⟨e1, _, _⟩ := isU8_eq (hu v (List.mem_of_getElem? hv))
          have hcells : v.cells = [v] := by rw [e1]; rfl
          obtain ⟨c1, hc1⟩ := hd2 i 0 v v hv (by rw [hcells]; rfl)
          have hp := h2 i 0 v v c1 hv (by rw [hcells]; rfl) hc1
          refine ⟨b2, off, rfl, hz, ?_⟩
          rw [Nat.mul_one, Nat.add_zero] at hc1
          rw [hc1]
          rw [e1] at hp
          cases hp
          rfl
  · cases hi
end Go.Proofs.YtffofdfikmpanaaDoor.A

namespace Go.Proofs.YtffofdfikmpanaaDoor.A
open Go Go.Proofs Go.RowKit
set_option linter.unusedVariables false
set_option linter.unusedSimpArgs false
attribute [local go_sem] Oper.semAt_some

set_option maxRecDepth 100000 in
set_option maxHeartbeats 1000000 in
theorem clone_nil (w : World) (cap : Nat) : CallsIn Fence.wide 0 Tryd.prog 21 #[.slice none 0 cap] w fun e w' => e = .returned (.slice none 0 0) ∧ w' = w := by
  refine callsIn_of_wp Tryd.func21 rfl trivial ?_ rfl
  simp only [Tryd.ntmps21, List.size_toArray, List.length_cons, List.length_nil, Nat.reduceAdd, Nat.reduceSub, Array.replicate_succ, Array.replicate_zero, List.push_toArray, List.append_toArray, List.nil_append, List.cons_append]
  have hb : (binOp BinOp.eql 22 (.slice none 0 cap) (.slice none 0 0)).run Tryd.prog w = .ok (.bool true) w := by rfl
  gi_wp2
  go_ret
  exact ⟨rfl, rfl⟩

set_option maxRecDepth 100000 in
set_option maxHeartbeats 1000000 in
theorem clone_empty (w : World) (ad : Addr) (cap : Nat) : CallsIn Fence.wide 0 Tryd.prog 21 #[.slice (some ad) 0 cap] w fun e w' => ∃ ad', e = .returned (.slice ad' 0 0) ∧ Turns w w' (fun _ => False) := by
  refine callsIn_of_wp Tryd.func21 rfl trivial ?_ rfl
  simp only [Tryd.ntmps21, List.size_toArray, List.length_cons, List.length_nil, Nat.reduceAdd, Nat.reduceSub, Array.replicate_succ, Array.replicate_zero, List.push_toArray, List.append_toArray, List.nil_append, List.cons_append]
  have hb : (binOp BinOp.eql 22 (.slice (some ad) 0 cap) (.slice none 0 0)).run Tryd.prog w = .ok (.bool false) w := by rfl
  gi_wp2
  go_ret
  exact ⟨_, rfl, ⟨rfl, rfl, rfl, by simp, fun b hb _ => RowKit.Below.heap_alloc _ _ _ hb⟩⟩

/-- No call is told. -/
def K0n : Oracle := fun _ _ => none
theorem K0n_sound : KSound Tryd.prog K0n := fun f args r outs n h => by simp [K0n] at h

theorem clone_rel {w w' : World} {X : Nat → Prop} {g : Value} {F : Nat → Nat → Prop} {sl : List S} {cv : List Value} (R : Rel Tryd.prog w X sl cv F) (ht : Turns w w' (fun _ => False)) (ad : Option Addr) (hc : Tryd.prog.cellsOf 5 ≠ 0) :
    Rel Tryd.prog w' X [.t (.own 5 []), .t .dead] [.slice ad 0 0, g] (fun _ _ => False) ∧ To w F w' (fun _ _ => False) :=
  ⟨⟨rfl, fun _ _ h => h.elim, fun _ _ _ h => h.elim, fun _ _ h => h.elim, fun b hb => Nat.lt_of_lt_of_le (R.xlt b hb) ht.size, fun i s c hs hc' => by
    match i with
    | 0 => cases hs; cases hc'; exact .own0 none 5 ad _ (fun _ h => h) fun h => absurd h hc
    | 1 => cases hs; cases hc'; exact .dead none _ _ fun _ h => h
    | i + 2 => simp at hs⟩, ⟨fun i b h => h.elim, ht.mono fun _ h => h.elim⟩⟩

/-- What is told of bytes.Clone. -/
def cloneTold : List Arg → Option (T × List T) := fun args => match args with
  | [.v (.sl true false 1 es)] => if es.length ≤ 2147483648 then some (.own 5 es, [.dead]) else none
  | _ => none

noncomputable def HC : Hints := { ht := fun f => match Tryd.prog.funcs[f]? with | some fn => funcHTz [] fn | none => .z, give := fun f d => f == 21 && d == 2 }

theorem clone_run (a : V) (r : List V) (h : (a :: r).length ≤ 2147483648) : runF Tryd.prog K0n HC 21 [.v (.sl true false 1 (a :: r))] = some (.own 5 (a :: r), [.dead]) := by
  have e : evF Tryd.prog (spOf []) HC {} 21 [.v (.sl true false 1 (a :: r))] (T × List T) (fun t o => some (t, o)) = if 0 + (a :: r).length ≤ 2147483648 then some (.own 5 (a :: r), [.dead]) else none := by kernel_rfl
  rw [if_pos (by omega)] at e
  obtain ⟨t, o, h1, h2⟩ := evF_ok (K := K0n) (spOk (by simp)) e
  cases h2
  exact h1

theorem HC_same : HSound Tryd.prog HC := fun f h => by cases h
theorem HC_iter : ISound Tryd.prog HC := noIter fun f caps => rfl
theorem HC_iterO : IOSound Tryd.prog HC := noIterO fun f x => rfl

theorem clone_sound (hm : Tryd.prog.follows .mixedOrders = true) {args : List Arg} {r : T} {outs : List T} {n : Nat} (h : cloneTold args = some (r, outs)) (hsl : slotsOf Tryd.prog 21 = some n) (hle : args.length ≤ n) :
    r.stab = true ∧ (∀ x ∈ outs, x = .dead ∨ x.stab = true) ∧
    ∀ (w : World) (X : Nat → Prop) (vals gs : List Value) (F : Nat → Nat → Prop), vals.length = args.length → gs.length = args.length →
      Rel Tryd.prog w X (frame n args) (vals ++ List.replicate (n - args.length) undef ++ gs) F →
      Calls Tryd.prog 21 vals.toArray w fun e w' => ∃ c F', e = .returned c ∧ Rel Tryd.prog w' X (.t r :: outs.map .t) (c :: gs) F' ∧ To w F w' F' := by
  unfold cloneTold at h
  split at h
  · rename_i es
    split at h
    · rename_i hlen
      cases h
      cases es with
      | cons a r => exact runF_sound hm K0n_sound HC_same HC_iter HC_iterO (clone_run a r hlen) hsl hle
      | nil =>
        refine ⟨rfl, by simp, fun w X vals gs F hvl hgl R => ?_⟩
        obtain ⟨c0, rfl⟩ := List.length_eq_one_iff.1 hvl
        obtain ⟨g, rfl⟩ := List.length_eq_one_iff.1 hgl
        have h0 : TRep Tryd.prog w _ _ none (.p (.sl true false 1 [])) c0 (F 0) := R.slot 0 (.t (.p (.sl true false 1 []))) c0 rfl rfl
        have hs : ∃ ad cap, c0 = .slice ad 0 cap := by
          cases h0 with
          | p me v c F hp hF =>
            cases hp with
            | sl0 _ _ _ a cap he => exact ⟨a, cap, rfl⟩
            | sl _ _ _ _ b off cap => exact ⟨_, cap, rfl⟩
        obtain ⟨ad, cap, rfl⟩ := hs
        cases ad with
        | none =>
          refine ((callsIn_wide (n := 0)).1 (clone_nil w cap)).mono fun e w' he => ?_
          obtain ⟨rfl, rfl⟩ := he
          obtain ⟨R', t'⟩ := clone_rel (g := g) R (Turns.refl _ _) none (by rw [show Tryd.prog.cellsOf 5 = 1 from by kernel_rfl]; decide)
          exact ⟨_, _, rfl, R', t'⟩
        | some ad =>
          refine ((callsIn_wide (n := 0)).1 (clone_empty w ad cap)).mono fun e w' he => ?_
          obtain ⟨ad', rfl, ht⟩ := he
          obtain ⟨R', t'⟩ := clone_rel (g := g) R ht ad' (by rw [show Tryd.prog.cellsOf 5 = 1 from by kernel_rfl]; decide)
          exact ⟨_, _, rfl, R', t'⟩
    · cases h
  · cases h
end Go.Proofs.YtffofdfikmpanaaDoor.A

namespace Go.Proofs.YtffofdfikmpanaaDoor.A
open Go Go.Proofs Go.Shelf Go.RowKit
set_option linter.unusedVariables false
set_option linter.unusedSimpArgs false

section
variable {P : Program} {ρ : Ren}
set_option maxHeartbeats 8000000 in
set_option maxRecDepth 1000000 in
theorem trimR_set (L : SlLaysV.n7 P ρ) (hv27 : ∀ w, (zeroValue (ρ.t 27)).run P w = .ok (.agg (Array.replicate 256 (.bool false))) w) (hi27 : (P.info? (ρ.t 27)).map (·.size) = some 256) (p : Option Addr) (n c : Nat) (bs : List UInt8) (cutset : ByteArray) (w : World)
    (hb : bs.length = n) (hnc : n ≤ c) (hbig : n ≤ 9223372036854775807) (h1 : Lib.BytesAt w p n bs) (h2 : 2 ≤ cutset.size) (h0 : 0 < n) (hcs : cutset.size < 4294967281) (hascii : ∀ (j : Nat) b, cutset.data.toList[j]? = some b → b.toNat < 128) :
    Calls P (ρ.f 7) #[.slice p n c, .string cutset] w fun e w' => e = .returned (.slice p (Lib.trimRightS bs cutset.data.toList).length c) ∧ w' = ((w.alloc (.cells (Lib.setCells cutset.data.toList) (ρ.t 27))).alloc (.cells (Lib.setCells cutset.data.toList) (ρ.t 27))) := by
  have hM := Any.bytes_makeASCIISet { L with } hv27 hi27 cutset w hcs hascii
  clear hascii
  have hemp : cutset.toList.isEmpty = false := by
    rw [Lib.toList_data]
    cases h : cutset.data.toList with
    | nil => have := Lib.size_eq cutset; rw [h, List.length_nil] at this; omega
    | cons _ _ => rfl
  have hn0 : ((n : Int) == 0) = false := beq_eq_false_iff_ne.2 (by omega)
  have hn1 : ((cutset.size : Int) == 1) = false := beq_eq_false_iff_ne.2 (by omega)
  have hsc : (storeCells ⟨w.heap.size + 1, 0, none⟩ (Lib.setCells cutset.data.toList).toList 0).run P ((w.alloc (.cells (Lib.setCells cutset.data.toList) (ρ.t 27))).alloc (.cells (Array.replicate 256 (.bool false)) (ρ.t 27))) = .ok () ((w.alloc (.cells (Lib.setCells cutset.data.toList) (ρ.t 27))).alloc (.cells (Lib.setCells cutset.data.toList) (ρ.t 27))) := by
    have := run_storeCells_new (P := P) (w.alloc (.cells (Lib.setCells cutset.data.toList) (ρ.t 27))) (ρ.t 27) (Array.replicate 256 (.bool false)) (Lib.setCells cutset.data.toList) (by rw [Lib.setCells_size]; exact hi27) (by rw [Lib.setCells_size, Array.size_replicate]) (Lib.setCells_one _)
    simpa using this
  have hsz := Lib.setCells_size cutset.data.toList
  have hcellAt : ∀ x : UInt8, ((w.alloc (.cells (Lib.setCells cutset.data.toList) (ρ.t 27))).alloc (.cells (Lib.setCells cutset.data.toList) (ρ.t 27))).cell? ⟨w.heap.size + 1, x.toNat, none⟩ = some (.bool (cutset.data.toList.contains x)) := fun x => by
    rw [World.cell?_alloc_at _ _ _ _ (by simp), Lib.setCells_at]
  have hB2 : Below w.heap.size w ((w.alloc (.cells (Lib.setCells cutset.data.toList) (ρ.t 27))).alloc (.cells (Lib.setCells cutset.data.toList) (ρ.t 27))) := ((Below.refl _ _).alloc (Nat.le_refl _) _).alloc (by simp) _
  have h1' := h1.below hB2
  clear h1 hB2
  have mixed := L.mixed; have t0 := L.t0; have a0 := L.a0; have z0 := L.z0; have v0 := L.v0; have t3 := L.t3; have a3 := L.a3; have z3 := L.z3; have v3 := L.v3; have t4 := L.t4; have a4 := L.a4; have z4 := L.z4; have v4 := L.v4; have t5 := L.t5; have a5 := L.a5; have z5 := L.z5; have v5 := L.v5; have t9 := L.t9; have a9 := L.a9; have z9 := L.z9; have v9 := L.v9; have t21 := L.t21; have a21 := L.a21; have z21 := L.z21; have v21 := L.v21; have t22 := L.t22; have a22 := L.a22; have z22 := L.z22; have v22 := L.v22; have t27 := L.t27; have t31 := L.t31; have a31 := L.a31; have z31 := L.z31; have v31 := L.v31
  have u0 := run_underlying L.t0; have u3 := run_underlying L.t3; have u4 := run_underlying L.t4; have u5 := run_underlying L.t5; have u9 := run_underlying L.t9; have u21 := run_underlying L.t21; have u22 := run_underlying L.t22; have u27 := run_underlying L.t27; have u31 := run_underlying L.t31
  have e11 : ∀ args w, (callFunc (ρ.f 11) args).run P w = .ok (.enter (ρ.f 11) args) w := enters_of L.f11 (by kernel_rfl) rfl
  have e13 : ∀ args w, (callFunc (ρ.f 13) args).run P w = .ok (.enter (ρ.f 13) args) w := enters_of L.f13 (by kernel_rfl) rfl
  have hT := Any.bytes_trimRightASCII { L with } p n c bs (w.heap.size + 1) cutset.data.toList _ hb hnc hbig h1' hcellAt
  clear hcellAt h1'
  go_enter L.f7, SlBodyV.n7_ntmps ρ
  go_wp2_with (go_at_fn (ρ.f 11); refine hM.mono ?_; rintro e w' ⟨rfl, hw⟩; rw [hw])
  simp only [L.z27, Result.andThen, ↓reduceIte, hsc]
  rw [Oper.upon_skip]
  clear hM hsc
  go_wp2_with (go_at_fn (ρ.f 13); refine hT.mono ?_; rintro e w' ⟨rfl, hw⟩; rw [hw])
  go_ret
  exact ⟨rfl, rfl⟩
end

theorem trimRV_len (cs : List UInt8) : ∀ es : List V, (∀ v ∈ es, v.isU8 = true) → (Lib.trimRightS (Lib.bytesOf (numsV es)) cs).length = (trimRV cs es).length := by
  intro es hu
  unfold Lib.trimRightS trimRV
  rw [List.length_reverse, List.length_reverse]
  have key : ∀ l : List V, (∀ v ∈ l, v.isU8 = true) → (List.dropWhile (cs.contains ·) (Lib.bytesOf (numsV l))).length = (l.dropWhile fun v => cs.any fun c => v.isN c.toNat).length := by
    intro l
    induction l with
    | nil => intro _; rfl
    | cons v l ih =>
      intro hl
      have hv := hl v (by simp)
      obtain ⟨he, h0, h1⟩ := isU8_eq hv
      have hb : Lib.bytesOf (numsV (v :: l)) = UInt8.ofNat (numOf v).toNat :: Lib.bytesOf (numsV l) := rfl
      have hc : cs.contains (UInt8.ofNat (numOf v).toNat) = cs.any fun c => v.isN c.toNat := by
        rw [Bool.eq_iff_iff, List.contains_iff_mem, List.any_eq_true]
        constructor
        · intro h
          refine ⟨_, h, ?_⟩
          rw [isN_iff hv]
          simp only [UInt8.toNat_ofNat']
          omega
        · rintro ⟨c, hc, hn⟩
          rw [isN_iff hv] at hn
          have : UInt8.ofNat (numOf v).toNat = c := by
            apply UInt8.toNat_inj.1
            have := c.toNat_lt
            simp only [UInt8.toNat_ofNat']
            omega
          rw [this]; exact hc
      rw [hb, List.dropWhile_cons, List.dropWhile_cons, hc]
      split
      · exact ih fun u hu => hl u (by simp [hu])
      · simp [Lib.bytesOf, numsV]
  have hr : (Lib.bytesOf (numsV es)).reverse = Lib.bytesOf (numsV es.reverse) := by simp [Lib.bytesOf, numsV]
  rw [hr]
  exact key es.reverse fun v hv => hu v (by simpa using hv)

theorem trimRV_sub (cs : List UInt8) (es : List V) (i : Nat) (v : V) (h : (trimRV cs es)[i]? = some v) : es[i]? = some v := by
  have : trimRV cs es <+: es := by
    unfold trimRV
    have h1 := List.dropWhile_suffix (l := es.reverse) fun v => cs.any fun c => v.isN c.toNat
    have h2 := List.reverse_prefix.2 h1
    rwa [List.reverse_reverse] at h2
  obtain ⟨t, ht⟩ := this
  rw [← ht, List.getElem?_append_left (List.getElem?_eq_some_iff.1 h).1]
  exact h

/-- bytes.TrimRight, told. -/
theorem trimR_call {w : World} {Z : Nat → Prop} {p : Option Addr} {c : Nat} {es : List V} {cs : List UInt8} (hl : Lst w Z p c es) (hlen : es.length ≤ 4611686018427387904) (h2 : 2 ≤ cs.length) (hcs : cs.length < 4294967281) (ha : ∀ b ∈ cs, b.toNat < 128) :
    Calls Tryd.prog 22 #[.slice p es.length c, .string ⟨cs.toArray⟩] w fun e w' => e = .returned (.slice p (trimRV cs es).length c) ∧ Turns w w' (fun _ => False) := by
  have hsz : (⟨cs.toArray⟩ : ByteArray).size = cs.length := by simp [ByteArray.size]
  by_cases h0 : es.length = 0
  · have : es = [] := List.eq_nil_of_length_eq_zero h0
    subst this
    refine (Any.bytes_TrimRight_empty laysTR p 0 c ⟨cs.toArray⟩ w (.inl rfl)).mono fun e w' ⟨he, hw⟩ => ⟨he, hw ▸ Turns.refl _ _⟩
  · have hb := hl.bytesIn (W := w) fun b _ => rfl
    have hr : ∀ x ∈ numsV es, 0 ≤ x ∧ x < 256 := fun x hx => by
      obtain ⟨v, hv, rfl⟩ := List.mem_map.1 hx
      exact (isU8_eq (hl.u8 v hv)).2
    have hz := zero_of_info (P := Tryd.prog) (t := laysTR_ren.t 27) (v := .agg (Array.replicate 256 (.bool false))) (n := 256) (by kernel_rfl)
    refine (trimR_set laysTR hz.1 hz.2 p es.length c (Lib.bytesOf (numsV es)) ⟨cs.toArray⟩ w (by rw [Lib.bytesOf_length, numsV_length]) hl.cap (by omega) (hb.at8 (numsV_length es) hr) (by omega) (by omega) (by omega) (fun j b hj => ha b (by simpa using List.mem_of_getElem? hj))).mono fun e w' ⟨he, hw⟩ => ⟨?_, ?_⟩
    · rw [he, show (⟨cs.toArray⟩ : ByteArray).data.toList = cs from by simp, trimRV_len cs es hl.u8]
    · rw [hw]
      exact ⟨rfl, rfl, rfl, by simp; omega, fun b hb _ => (RowKit.Below.heap_alloc _ _ _ (by simp; omega)).trans (RowKit.Below.heap_alloc _ _ _ hb)⟩

/-- What is told of bytes.TrimRight. -/
def trimTold : List Arg → Option (T × List T) := fun args => match args with
  | [.v (.sl false false 1 es), .v (.str cs)] => (trimRItems es cs).map (fun l => (.p (.sl false false 1 l), [.dead, .dead]))
  | _ => none

theorem trim_sound {args : List Arg} {r : T} {outs : List T} {n : Nat} (h : trimTold args = some (r, outs)) (hsl : slotsOf Tryd.prog 22 = some n) (hle : args.length ≤ n) :
    r.stab = true ∧ (∀ x ∈ outs, x = .dead ∨ x.stab = true) ∧
    ∀ (w : World) (X : Nat → Prop) (vals gs : List Value) (F : Nat → Nat → Prop), vals.length = args.length → gs.length = args.length →
      Rel Tryd.prog w X (frame n args) (vals ++ List.replicate (n - args.length) undef ++ gs) F →
      Calls Tryd.prog 22 vals.toArray w fun e w' => ∃ c F', e = .returned c ∧ Rel Tryd.prog w' X (.t r :: outs.map .t) (c :: gs) F' ∧ To w F w' F' := by
  unfold trimTold at h
  split at h
  · rename_i es cs
    rw [Option.map_eq_some_iff] at h
    obtain ⟨l, hl, he⟩ := h
    cases he
    unfold trimRItems at hl
    split at hl
    · rename_i hh
      simp only [Bool.and_eq_true, decide_eq_true_eq, List.all_eq_true] at hh
      obtain ⟨⟨⟨⟨hlen, hu⟩, h2⟩, hcs⟩, ha⟩ := hh
      cases hl
      refine ⟨rfl, by simp, fun w X vals gs F hvl hgl R => ?_⟩
      obtain ⟨c0, c1, rfl⟩ : ∃ a b, vals = [a, b] := by
        match vals, hvl with
        | [a, b], _ => exact ⟨a, b, rfl⟩
      obtain ⟨g0, g1, rfl⟩ : ∃ a b, gs = [a, b] := by
        match gs, hgl with
        | [a, b], _ => exact ⟨a, b, rfl⟩
      have s0 : TRep Tryd.prog w _ _ none (.p (.sl false false 1 es)) c0 (F 0) := R.slot 0 (.t (.p (.sl false false 1 es))) c0 rfl rfl
      have s1 : TRep Tryd.prog w _ _ none (.p (.str cs)) c1 (F 1) := R.slot 1 (.t (.p (.str cs))) c1 rfl rfl
      cases s1 with
      | p _ _ _ _ s1 _ =>
      cases s1
      have main : ∀ (p : Option Addr) (cap : Nat), c0 = .slice p es.length cap → Lst w (zs w X F) p cap es → _ := fun p cap hc hls =>
        (show Calls Tryd.prog 22 [c0, Value.string ⟨cs.toArray⟩].toArray w fun e w' => ∃ c F', e = .returned c ∧ Rel Tryd.prog w' X [.t (.p (.sl false false 1 (trimRV cs es))), .t .dead, .t .dead] [c, g0, g1] F' ∧ To w F w' F' from by
          rw [hc]
          refine (trimR_call hls hlen h2 hcs ha).mono fun e w' ⟨he, ht⟩ => ⟨_, fun _ _ => False, he, ⟨rfl, fun _ _ h => h.elim, fun _ _ _ h => h.elim, fun _ _ h => h.elim, fun b hb => Nat.lt_of_lt_of_le (R.xlt b hb) ht.size, fun i s c hs hc' => ?_⟩, ⟨fun i b h => h.elim, ht.mono fun _ h => h.elim⟩⟩
          have hrep : PRep w (zs w X F) (zs w X F) (.sl false false 1 (trimRV cs es)) (.slice p (trimRV cs es).length cap) := (hls.sub (trimRV_sub cs es)).rep (s := false)
          match i with
          | 0 =>
            cases hs; cases hc'
            refine .p none _ _ _ (hrep.mono (fun _ h => h) (fun b hb => ⟨⟨Nat.lt_of_lt_of_le hb.1.1 ht.size, fun _ h => h⟩, hb.2⟩) (fun b hb => ⟨Nat.lt_of_lt_of_le hb.1.1 ht.size, fun _ h => h⟩) fun b hb => ht.block b hb.1.1 id) fun _ h => h
          | 1 => cases hs; cases hc'; exact .dead none _ _ fun _ h => h
          | 2 => cases hs; cases hc'; exact .dead none _ _ fun _ h => h
          | i + 3 => simp at hs)
      cases s0 with
      | p _ _ _ _ hp _ =>
        generalize hes : es = es' at hp
        cases hp with
        | sl0 _ _ _ a cap he =>
          subst hes
          exact main a cap rfl ⟨by simp, by simp, fun i v hv => by simp at hv⟩
        | sl _ _ _ _ b2 off cap he hc hz hcl h1' hd2 h3 =>
          subst hes
          refine main _ cap rfl ⟨hc, hu, fun i v hv => ?_⟩
          obtain ⟨e1, _, _⟩ := isU8_eq (hu v (List.mem_of_getElem? hv))
          have hcells : v.cells = [v] := by rw [e1]; rfl
          obtain ⟨d1, hd1⟩ := hd2 i 0 v v hv (by rw [hcells]; rfl)
          have hp := h3 i 0 v v d1 hv (by rw [hcells]; rfl) hd1
          refine ⟨b2, off, rfl, hz, ?_⟩
          rw [Nat.mul_one, Nat.add_zero] at hd1
          rw [hd1]
          rw [e1] at hp
          cases hp
          rfl
    · cases hl
  · cases h
end Go.Proofs.YtffofdfikmpanaaDoor.A

namespace Go.Proofs.YtffofdfikmpanaaDoor.A
open Go Go.Proofs Go.RowKit
set_option linter.unusedVariables false
set_option linter.unusedSimpArgs false

def isPlainB (r : Int) : Bool := decide (r > 32) && decide (r ≤ 126)

set_option maxRecDepth 100000 in
theorem isPlain_call (r : Int) (w : World) : Calls Tryd.prog 26 #[.int .i32 r] w fun e w' => e = .returned (.bool (isPlainB r)) ∧ w' = w := by
  unfold isPlainB
  go_enter Tryd.func26, Tryd.ntmps26
  go_wp2
  all_goals (go_ret; simp_all; try omega)

theorem word_at (s : ByteArray) (pos : Nat) (h : pos < s.size) : s.data.toList[pos]? = some (s[pos]'h) := by
  have : pos < s.data.toList.length := by rw [Array.length_toList]; exact h
  rw [List.getElem?_eq_getElem this, Array.getElem_toList]
  rfl

theorem plain_ascii (s : ByteArray) (pos : Nat) (h : pos < s.size) : isPlainB ((Utf8.decode s pos).1 : Int) = (decide (33 ≤ (s[pos]'h).toNat) && decide ((s[pos]'h).toNat ≤ 126)) ∧ (isPlainB ((Utf8.decode s pos).1 : Int) = true → (Utf8.decode s pos).2 = 1) := by
  by_cases ha : (s[pos]'h).toNat < 128
  · rw [decode_ascii s pos h ha]
    refine ⟨?_, fun _ => rfl⟩
    unfold isPlainB
    rw [Bool.eq_iff_iff]
    simp only [Bool.and_eq_true, decide_eq_true_eq]
    omega
  · have hd := decode_high s pos h (by omega)
    have h1 : isPlainB ((Utf8.decode s pos).1 : Int) = false := by
      unfold isPlainB
      rw [Bool.and_eq_false_iff]
      right
      exact decide_eq_false (by omega)
    rw [h1]
    refine ⟨?_, fun h => (by cases h)⟩
    symm
    rw [Bool.and_eq_false_iff]
    right
    exact decide_eq_false (by omega)

theorem word_empty (s : ByteArray) : (!s.toList.isEmpty) = decide (1 ≤ s.size) := by
  rw [Lib.toList_data]
  have : s.data.toList.length = s.size := by rw [Array.length_toList]; rfl
  rw [← this]
  cases s.data.toList <;> simp
theorem word_cast (n : Nat) : decide ((n : Int) ≤ 60) = decide (n ≤ 60) := by
  rw [decide_eq_decide]; omega

set_option maxRecDepth 1000000 in
theorem isWord_call (s : ByteArray) (w : World) :
    Calls Tryd.prog 18 #[.string s] w fun e w' => e = .returned (.bool (isWordB s.data.toList)) ∧ ∃ pos, w' = w.iter s pos := by
  have hsz : s.data.toList.length = s.size := by rw [Array.length_toList]; rfl
  go_enter Tryd.func18, Tryd.ntmps18
  go_wp2
  go_loopw [4] (fun _ w' => ∃ pos : Nat, w' = w.iter s pos ∧ pos ≤ s.size ∧ ∀ (j : Nat) (b : UInt8), j < pos → s.data.toList[j]? = some b → 33 ≤ b.toNat ∧ b.toNat ≤ 126) (fun _ w' => s.size - w'.iterPos w.heap.size)
  case atStart => exact ⟨0, rfl, Nat.zero_le _, fun j b hj => by omega⟩
  case round =>
    obtain ⟨pos, rfl, hle, hall⟩ := hrel
    by_cases hp : pos < s.size
    · have hnx : ∀ ty, (Instr.next (.pointer (some ⟨w.heap.size, 0, none⟩)) true ty).run Tryd.prog (w.iter s pos) = _ := fun ty => run_next_any w s pos ty hp
      obtain ⟨hpl, hwd⟩ := plain_ascii s pos hp
      have hcon := isPlain_call ((Utf8.decode s pos).1 : Int)
      have hb := word_at s pos hp
      cases hb1 : isPlainB ((Utf8.decode s pos).1 : Int) with
      | true =>
        rw [hb1] at hcon hpl
        have hw1 := hwd hb1
        have hin : 33 ≤ (s[pos]'hp).toNat ∧ (s[pos]'hp).toNat ≤ 126 := by
          have := hpl.symm
          rw [Bool.and_eq_true, decide_eq_true_eq, decide_eq_true_eq] at this
          exact this
        have HB : Aside (s.data.toList[pos]? = some (s[pos]'hp)) := hb
        have HI : Aside (33 ≤ (s[pos]'hp).toNat ∧ (s[pos]'hp).toNat ≤ 126) := hin
        have HW : Aside ((Utf8.decode s pos).2 = 1) := hw1
        have HA : Aside (∀ (j : Nat) (b : UInt8), j < pos → s.data.toList[j]? = some b → 33 ≤ b.toNat ∧ b.toNat ≤ 126) := hall
        clear hpl hwd hb1 hb hin hw1 hall
        go_wp2_with (go_at_call 26; refine (hcon _).mono ?_; rintro e w' ⟨rfl, rfl⟩)
        go_roundw
        case rel =>
          have hw1 : (Utf8.decode s pos).2 = 1 := HW
          refine ⟨pos + 1, by rw [hw1], hp, fun j b hj hjb => ?_⟩
          by_cases hjp : j < pos
          · exact HA j b hjp hjb
          · have : j = pos := by omega
            subst this
            have hb : s.data.toList[j]? = some (s[j]'hp) := HB
            rw [hb] at hjb; cases hjb
            exact HI
        case measure =>
          have hw1 : (Utf8.decode s pos).2 = 1 := HW
          simp [hw1]
          omega
      | false =>
        rw [hb1] at hcon hpl
        have HB : Aside (s.data.toList[pos]? = some (s[pos]'hp)) := hb
        have HP : Aside (false = (decide (33 ≤ (s[pos]'hp).toNat) && decide ((s[pos]'hp).toNat ≤ 126))) := hpl
        clear hpl hwd hb1 hb hall
        go_wp2_with (go_at_call 26; refine (hcon _).mono ?_; rintro e w' ⟨rfl, rfl⟩)
        go_ret
        refine ⟨?_, _, rfl⟩
        have hb : s.data.toList[pos]? = some (s[pos]'hp) := HB
        have hpl : false = (decide (33 ≤ (s[pos]'hp).toNat) && decide ((s[pos]'hp).toNat ≤ 126)) := HP
        have : isWordB s.data.toList = false := by
          unfold isWordB
          have : (s.data.toList.all fun c => decide (33 ≤ c.toNat) && decide (c.toNat ≤ 126)) = false := by
            rw [List.all_eq_false]
            exact ⟨_, List.mem_of_getElem? hb, by rw [← hpl]; simp⟩
          rw [this]; rfl
        rw [this]; rfl
    · have hps : pos = s.size := by omega
      subst hps
      have hall' : (s.data.toList.all fun c => decide (33 ≤ c.toNat) && decide (c.toNat ≤ 126)) = true := by
        rw [List.all_eq_true]
        intro c hc
        obtain ⟨j, hj⟩ := List.getElem?_of_mem hc
        have hjl := (List.getElem?_eq_some_iff.1 hj).1
        have := hall j c (by omega) hj
        rw [Bool.and_eq_true, decide_eq_true_eq, decide_eq_true_eq]
        exact this
      have hres : isWordB s.data.toList = (decide (1 ≤ s.size) && decide (s.size ≤ 60)) := by
        unfold isWordB; rw [hall', hsz]; rfl
      have HR : Aside (isWordB s.data.toList = (decide (1 ≤ s.size) && decide (s.size ≤ 60))) := hres
      clear hall hall' hres hsz
      have hnx : ∀ ty, (Instr.next (.pointer (some ⟨w.heap.size, 0, none⟩)) true ty).run Tryd.prog (w.iter s s.size) = _ := fun ty => run_next_end w s s.size ty hp
      go_wp2
      · rename_i he
        go_ret
        refine ⟨?_, _, rfl⟩
        have hr : isWordB s.data.toList = (decide (1 ≤ s.size) && decide (s.size ≤ 60)) := HR
        have hE := word_empty s
        rw [hr, ← hE, ← word_cast]
        simp_all
      · go_ret
        refine ⟨?_, _, rfl⟩
        have hr : isWordB s.data.toList = (decide (1 ≤ s.size) && decide (s.size ≤ 60)) := HR
        have hE := word_empty s
        rw [hr, ← hE, ← word_cast]
        rfl

/-- What is told of text.IsWord. -/
def wordTold : List Arg → Option (T × List T) := fun args => match args with
  | [.v (.str s)] => some (.p (.bool (isWordB s)), [.dead])
  | _ => none

theorem word_sound {args : List Arg} {r : T} {outs : List T} {n : Nat} (h : wordTold args = some (r, outs)) (hsl : slotsOf Tryd.prog 18 = some n) (hle : args.length ≤ n) :
    r.stab = true ∧ (∀ x ∈ outs, x = .dead ∨ x.stab = true) ∧
    ∀ (w : World) (X : Nat → Prop) (vals gs : List Value) (F : Nat → Nat → Prop), vals.length = args.length → gs.length = args.length →
      Rel Tryd.prog w X (frame n args) (vals ++ List.replicate (n - args.length) undef ++ gs) F →
      Calls Tryd.prog 18 vals.toArray w fun e w' => ∃ c F', e = .returned c ∧ Rel Tryd.prog w' X (.t r :: outs.map .t) (c :: gs) F' ∧ To w F w' F' := by
  unfold wordTold at h
  split at h
  · rename_i s
    cases h
    refine ⟨rfl, by simp, fun w X vals gs F hvl hgl R => ?_⟩
    obtain ⟨c0, rfl⟩ := List.length_eq_one_iff.1 hvl
    obtain ⟨g0, rfl⟩ := List.length_eq_one_iff.1 hgl
    have s0 : TRep Tryd.prog w _ _ none (.p (.str s)) c0 (F 0) := R.slot 0 (.t (.p (.str s))) c0 rfl rfl
    cases s0 with
    | p _ _ _ _ s0 _ =>
    cases s0
    refine (isWord_call ⟨s.toArray⟩ w).mono fun e w' ⟨he, pos, hw⟩ => ?_
    have ht : Turns w w' (fun _ => False) := by
      rw [hw]; exact Turns.alloc w _ _
    refine ⟨_, fun _ _ => False, he, ⟨rfl, fun _ _ h => h.elim, fun _ _ _ h => h.elim, fun _ _ h => h.elim, fun b hb => Nat.lt_of_lt_of_le (R.xlt b hb) ht.size, fun i sx c hs hc' => ?_⟩, ⟨fun i b h => h.elim, ht.mono fun _ h => h.elim⟩⟩
    match i with
    | 0 =>
      cases hs; cases hc'
      have : (⟨s.toArray⟩ : ByteArray).data.toList = s := by simp
      rw [this]
      exact .p none _ _ _ (.bool _) fun _ h => h
    | 1 => cases hs; cases hc'; exact .dead none _ _ fun _ h => h
    | i + 2 => simp at hs
  · cases h
end Go.Proofs.YtffofdfikmpanaaDoor.A

namespace Go.Proofs.YtffofdfikmpanaaDoor.A
open Go Go.Proofs Go.ChangeShapes Go.WideShapes Go.ChangeAt Go.RowKit
set_option linter.unusedVariables false

theorem own0 : ownKnob Tryd.prog.godebug = none := by kernel_rfl
theorem laid0 : laidOutB Tryd.prog = true := by kernel_rfl
theorem mixed0 : Tryd.prog.follows .mixedOrders = true := by kernel_rfl
theorem same0 : HSound Tryd.prog HH := fun f h => by cases h
theorem iter0 : ISound Tryd.prog HH := noIter fun f caps => rfl
theorem iterO0 : IOSound Tryd.prog HH := by
  intro f x items hi w Zs Zx c Fg hT hsx hZ hF
  have key : ∀ f x, HH.iterO f x = (match f, x with | 27, .opt _ [.p (.sl s _ 1 es)] => eachItems s es | _, _ => none) := fun _ _ => rfl
  rw [key] at hi
  split at hi
  · exact each_sound hi hT hsx hZ hF
  · cases hi
set_option maxRecDepth 100000 in
theorem told0 : KSound Tryd.prog (fun f args => match HSP f with | some g => g args | none => none) := by
  intro f args r outs n h hsl hle
  have key : ∀ f, HSP f = (match f with | 21 => some cloneTold | 22 => some trimTold | 18 => some wordTold | _ => none) := fun _ => rfl
  have h : (match HSP f with | some g => g args | none => none) = some (r, outs) := h
  rw [key] at h
  by_cases h1 : f = 21
  · subst h1; exact clone_sound mixed0 h hsl hle
  by_cases h2 : f = 22
  · subst h2; exact trim_sound h hsl hle
  by_cases h3 : f = 18
  · subst h3; exact word_sound h hsl hle
  split at h
  · rename_i g hg
    split at hg
    · exact absurd rfl h1
    · exact absurd rfl h2
    · exact absurd rfl h3
    · cases hg
  · cases h
theorem ks (n : Nat) : KSound Tryd.prog (callN Tryd.prog HH HSP n) := callN_sound mixed0 same0 iter0 iterO0 told0 n

theorem cells5 : Tryd.prog.cellsOf 5 = 1 := by kernel_rfl
theorem Opens.bytes (W : World) : Opens Tryd.prog W 22 (fun l : List UInt8 => V.sl false false 1 (bytesV l)) (fun _ => 0) (fun l => l.length ≤ reachBytes) := ⟨fun {H enc fuel cs d ps} h => by
  obtain ⟨x, hx, _, hf⟩ := (Opens.slice (P := Tryd.prog) (w := W) Tryd.underlying22 (by decide +kernel) (Opens.byte Tryd.underlying5)).run h
  rw [cells5] at hx
  exact ⟨x, hx, Nat.zero_le _, fun hw => (hf hw).1⟩⟩

theorem one_arg {Q : V → Value → Prop} {a : V} {x : Value} (h0 : Q a x) : ∀ (i : Nat) (v : V) (w : Value), [a][i]? = some v → [x][i]? = some w → Q v w
  | 0, v, w, hv, hc => by cases hv; cases hc; exact h0
  | n + 1, v, w, hv, hc => by simp at hv
theorem two_args {Q : V → Value → Prop} {a b : V} {x y : Value} (h0 : Q a x) (h1 : Q b y) : ∀ (i : Nat) (v : V) (w : Value), [a, b][i]? = some v → [x, y][i]? = some w → Q v w
  | 0, v, w, hv, hc => by cases hv; cases hc; exact h0
  | 1, v, w, hv, hc => by cases hv; cases hc; exact h1
  | n + 2, v, w, hv, hc => by simp at hv
theorem PRep.snapD {w : World} {Z : Nat → Prop} {ex : Bool} {sz : Nat} {es : List V} {c : Value} (h : PRep w Z Z (.sl false ex sz es) c) : PRep w Z Z (.sl true ex sz es) c := by
  cases h with
  | sl0 _ _ _ a cap he => exact .sl0 _ _ _ a cap he
  | sl _ _ _ _ b off cap he hc hz hcl h1 hd h => exact .sl _ _ _ _ b off cap he hc hz hcl h1 hd h
end Go.Proofs.YtffofdfikmpanaaDoor.A

namespace Go.Proofs.YtffofdfikmpanaaDoor.A
open Go Go.Proofs Go.ChangeShapes Go.WideShapes Go.ChangeAt Go.RowKit
set_option linter.unusedVariables false
set_option linter.unusedSimpArgs false

set_option maxRecDepth 100000 in
theorem TextForms_lifted (os : Go.Os) (started : os.Started) (H : Type) (enc : TypeId × Value → H) :
    ReturnsInHanded {} Tryd.checked os 5 .any (fun w args => (Rows.textFormsSpec.pre enc Tryd.prog Tryd.f5 [] false w args ∧ laidMetH Tryd.prog Rows.textFormsRow.laid w) ∧ sizedMet enc Tryd.prog Tryd.f5 (OpenSpec.ofChange Rows.textFormsSpec) false w args)
      (Rows.textFormsSpec.post enc Tryd.prog Tryd.f5 false true false false) := by
  refine returnsInHanded_of_change_and (C := Tryd.checked) (X := fun w _ => laidMetH Tryd.prog Rows.textFormsRow.laid w) (fun _ _ _ hh h => h.of_heap hh) own0 started (by kernel_rfl) Tryd.func5
    (ChangeSpec.witness_shaped (enc := enc) (C := Tryd.checked) (os := os) (X := fun w _ => laidMetH Tryd.prog Rows.textFormsRow.laid w) false (World.laidAll Tryd.prog os Rows.textFormsRow.laid) #[.slice none 0 0, .string ⟨#[]⟩] 8 (World.laidAll_os _ _ _)
      (World.shaped_of_ZipB (by kernel_rfl) (by kernel_rfl)) (by kernel_rfl) (by kernel_rfl) (by kernel_rfl)
      (by rw [MakeChecks.laidMetH_plain _ _ _ (by kernel_rfl)]; exact laidMet_laidAll _ (by kernel_rfl) (by kernel_rfl))) ?_
  intro W base args ds gs before hval0 hW _ _ hL _
  have hval : ∀ (j : Nat) t v, Tryd.f5.params[j]? = some t → args[j]? = some v → Value.okWide Tryd.prog W .any base t v := hval0
  have hW' := hW
  obtain ⟨p, q, hA0, hV, rfl, hfz, hnd⟩ := hW
  obtain ⟨rfl, rfl⟩ := trodVars_none hV
  have hA : DataW.TrodAll enc Tryd.prog W 0 (fun _ => true) true Tryd.f5.params.toList args.toList ds p := hA0
  rw [Tryd.params5] at hA hval
  obtain ⟨v0, v1, d0, d1, p0, p1, rfl, rfl, _, h0, h1⟩ := trodAll_two hA
  obtain ⟨m0, k0, _, _⟩ := (Opens.bytes W).arg (fun _ => by rw [Tryd.underlying22]; rfl) (hval 0 22 v0 rfl rfl) h0
  obtain ⟨m1, k1, _, _⟩ := (Opens.str (w := W) Tryd.underlying9).arg (fun _ => by rw [Tryd.underlying9]; rfl) (hval 1 9 v1 rfl rfl) h1
  refine (law_run (ks 6) (f := 5) (n := Tryd.f5.ntmps) (vs := [V.sl true false 1 (bytesV m0), V.str m1]) (vals := [v0, v1]) (by kernel_rfl) (Nat.le_of_ble_eq_true (by kernel_rfl)) (t_affiantlaw15_TextForms 6 (by decide) (bytesV m0, m1) true (law_TextForms m0 m1)) rfl (two_args (Q := fun v c => PRep W (All W) (All W) v c) k0.snapD k1)).mono fun e W' he => ?_
  obtain ⟨rfl, hb⟩ := he
  exact ⟨_, rfl, law_post laid0 (by kernel_rfl) rfl hW' rfl rfl Tryd.underlying4 hb⟩

theorem TextForms_row : Rows.TextFormsSaid :=
  OpenClaim.holds_of_wide 5 Tryd.f5 rfl rfl rfl rfl rfl rfl rfl ⟨rfl, rfl, rfl, rfl, rfl⟩ rfl rfl rfl rfl rfl (by kernel_rfl) Tryd.func5 (by kernel_rfl)
    (of_decide_eq_true (by kernel_rfl)) (by unfold Func.isWrapper; first | (rw [if_pos (by decide +kernel)]; kernel_rfl) | (rw [if_neg (by decide +kernel)]; exact ⟨rfl, rfl⟩))
    (fun os started H enc _ => TextForms_lifted os started H enc)

theorem TextForms_holds : Rows.TextFormsCardSaid :=
  Claim7.holds_tied_plain_at .later [] [.data, .pinned] true (true, "2edac05980fd296ce1e05a287b4f04affc4579a16868321505eca8e40b0c4abf") false
    TextForms_row (fun _ h => by cases h) (by kernel_rfl) (fun _ h => by cases h) textForms_row_tie rfl ⟨rfl, rfl⟩ (by kernel_rfl) rfl
    (fun f fn hf hfn => by
      obtain rfl : f = 5 := Option.some.inj ((show Tryd.prog.funcNamed Rows.textFormsRow.func = some 5 by kernel_rfl).symm.trans hf) |>.symm
      obtain rfl : fn = Tryd.f5 := (Option.some.inj (Tryd.func5.symm.trans hfn)).symm
      exact ⟨by kernel_rfl, fun j t ht => by
        rw [Tryd.params5] at ht
        have hm : t ∈ [22, 9] := by simpa using Array.mem_of_getElem? ht
        have hall : ([22, 9].all fun u => !Tryd.prog.wantsStandIn u) = true := by kernel_rfl
        exact (show Tryd.prog.wantsStandIn t = false by simpa using List.all_eq_true.1 hall t hm)⟩)
    (by kernel_rfl)
end Go.Proofs.YtffofdfikmpanaaDoor.A
