/- What the program's functions come to. Conditions: none. -/
import Derived.Test.YtffofdfikmpanaaLE
import Derived.Test.YtffofdfikmpanaaChecked
set_option linter.unusedVariables false
set_option linter.unusedSimpArgs false
set_option linter.constructorNameAsVariable false
set_option linter.unusedSectionVars false

namespace Go.Proofs.Ytffofdfikmpanaa.A
open Go Go.Proofs
set_option maxRecDepth 100000
noncomputable def HH : Hints := { ht := fun f => match Try.prog.funcs[f]? with | some fn => funcHTz (match f with | 168 => [2] | 135 => [2] | 45 => [4] | 53 => [2] | 23 => [4, 2000001] | 103 => [2] | 67 => [2] | 86 => [2] | 21 => [6] | 19 => [6] | 17 => [4] | 101 => [2] | _ => []) fn | none => .z, mode := fun f k => match f, k with | 109, 0 => 2 | 73, 0 => 2 | 134, 0 => 2 | 100, 0 => 2 | 168, 0 => 2 | 169, 0 => 3 | 53, 0 => 2 | 50, 0 => 2 | 52, 0 => 2 | 26, 0 => 2 | 23, 1 => 2 | 25, 0 => 2 | 24, 0 => 2 | 6, 1 => 2 | 5, 2 => 2 | 103, 0 => 2 | 194, 0 => 2 | 61, 0 => 2 | 61, 1 => 2 | 60, 0 => 2 | _, _ => 0, give := fun f d => match f with | 62 => [6].contains d | 48 => [4].contains d | 138 => [6].contains d | 105 => [4].contains d | 133 => [4].contains d | 100 => [2].contains d | 169 => [4].contains d | 136 => [2].contains d | 104 => [2, 3].contains d | 68 => [2].contains d | 44 => [2].contains d | 52 => [6].contains d | 26 => [2].contains d | 25 => [2].contains d | 24 => [2].contains d | 49 => [6].contains d | 139 => [2].contains d | 141 => [6].contains d | 194 => [2].contains d | 179 => [2].contains d | 106 => [2].contains d | 69 => [2].contains d | 47 => [4].contains d | 183 => [4].contains d | 150 => [2].contains d | 121 => [4].contains d | 56 => [2].contains d | 46 => [2].contains d | 22 => [6].contains d | 35 => [6].contains d | 61 => [4].contains d | 34 => [2].contains d | 11 => [2].contains d | 32 => [2].contains d | 20 => [6].contains d | 18 => [4].contains d | 63 => [4].contains d | 65 => [4].contains d | 40 => [2].contains d | _ => false, same := fun f => false, raw := fun t => [].contains t, iter := fun f caps => match f, caps with | 146, [.ref _ [.sl _ _ _ es]] => downItems .u32 es | _, _ => none, iterO := fun f x => match f, x with | 70, .opt _ [.p (.sl s _ 1 es)] => eachItems s es | _, _ => none, ownC := fun f => [70].contains f }
noncomputable def HO : Ho := { item := fun f => match f with | 146 => [.int .i64, .int .u32] | 70 => [.lst false 1] | _ => [], bigT := fun t => [].contains t }
noncomputable def HSP : Told := fun f => match f with | 51 => some (fun args => match args with | [.v (.sl true false 1 es)] => if es.length ≤ 2147483648 then some (.own 5 es, [.dead]) else none | _ => none) | _ => none
noncomputable def F_bytes_Clone : Ps [.v (.lst true 1)] → Option (Rc.I (.pure (.one (.t (.own 5))) 1)) := fun l => if l.length ≤ 2147483648 then some l else none
noncomputable def fn_bytes_Clone : Fn := ⟨51, [.v (.lst true 1)], .pure (.one (.t (.own 5))) 1, F_bytes_Clone⟩
theorem t_bytes_Clone : GoodAt Try.prog HH HSP 1 fn_bytes_Clone := goodAt_told rfl fun (x : List V) y h => by have h : (if x.length ≤ 2147483648 then some x else none) = some y := h; split at h <;> first | (rename_i hx; cases h; exact if_pos hx) | cases h
@[reducible] def rapi_Sig : List Cc := [.int .i64, .int .i64, .int .i64, .int .i64, .lst false 3, .lst false 3, .int .u8, .int .u8, .lst false 1, .lst false 1]
@[reducible] def rapi_Key : List Cc := [.int .i64, .int .u32, .int .i64, .lst false 1, .lst false 1, .arr .u8 32]
@[reducible] def rapi_Sub : List Cc := [.int .i64, .bool, .lst false 1]
noncomputable def F_cursor_Put : Ps [.v (.lst true 1), .v (.int .u64), .v (.int .i64)] → Option (Rc.I (.pure (.tup [.t (.own 5), .t (.v (.int .i64))]) 3)) := fun ((v0, v1, v2) : ((List V) × (Int × Int))) =>
  (if decide (v2 < 1) = false then
      if decide (v2 > 8) = false then
        if decide (v2 < 8) = true then
          if w64 (8 * v2) < 0 then
            none
          else
            some (wordShr .u64 v1 (w64 (8 * v2)) != 0)
        else
          some (false)
      else
        some (true)
    else
      some (true) : Option Bool).bind fun v3 =>
  if v3 = true then
      some ((nilV, 1))
    else
      if 0 ≤ len v0 ∧ len v0 ≤ w64 (len v0 + v2) ∧ w64 (len v0 + v2) ≤ 2147483648 then
        loopO (σ := (Int × ((List V) × Int))) (R := ((List V) × Int)) (fun (v4, v5, v6) =>
          if decide (v6 ≥ 0) = true then
            if v6 < 0 then
              none
            else
              if List.length (all v5) + 1 ≤ 2147483648 then
                some (.inl ((v4, all v5 ++ [V.int .u8 (wu8 (wordShr .u64 v4 v6))], w64 (v6 - 8))))
              else
                none
          else
            some (.inr ((all v5, 0)))) ((v1, List.take (min (List.length (rep (List.length v0) (V.int .u8 0))) (List.length v0)) v0 ++ List.drop (0 + min (List.length (rep (List.length v0) (V.int .u8 0))) (List.length v0)) (rep (List.length v0) (V.int .u8 0)), w64 (8 * w64 (v2 - 1))))
      else
        none
noncomputable def fn_cursor_Put : Fn := ⟨62, [.v (.lst true 1), .v (.int .u64), .v (.int .i64)], .pure (.tup [.t (.own 5), .t (.v (.int .i64))]) 3, F_cursor_Put⟩
theorem t_cursor_Put : GoodAt Try.prog HH HSP 1 fn_cursor_Put := goodAt_of (ho := HO) (l := []) rfl hl0 fun x => by kernel_rfl

noncomputable def F_image_put : Ps [.v (.lst true 1), .v (.int .i64)] → Option (Rc.I (.pure (.one (.t (.own 5))) 2)) := fun ((v0, v1) : ((List V) × Int)) =>
  (F_cursor_Put (v0, wu64 v1, 4)).bind fun ((v2, v3) : ((List V) × Int)) =>
  some (all v2)
noncomputable def fn_image_put : Fn := ⟨48, [.v (.lst true 1), .v (.int .i64)], .pure (.one (.t (.own 5))) 2, F_image_put⟩
theorem t_image_put : GoodAt Try.prog HH HSP 2 fn_image_put := goodAt_of (ho := HO) (l := [fn_cursor_Put]) rfl (hl1 (t_cursor_Put.up (by decide)) hl0) fun x => by kernel_rfl

noncomputable def F_sig_width : Ps [.v (.int .i64)] → Option (Rc.I (.pure (.one (.t (.v (.int .i64)))) 1)) := fun (v0 : Int) =>
  if (v0 == 6) = true then
    some (4)
  else
    some (2)
noncomputable def fn_sig_width : Fn := ⟨175, [.v (.int .i64)], .pure (.one (.t (.v (.int .i64)))) 1, F_sig_width⟩
theorem t_sig_width : GoodAt Try.prog HH HSP 1 fn_sig_width := goodAt_of (ho := HO) (l := []) rfl hl0 fun x => by kernel_rfl

noncomputable def F_sig_put : Ps [.v (.lst true 1), .v (.lst true 1), .v (.int .i64)] → Option (Rc.I (.pure (.one (.t (.own 5))) 3)) := fun ((v0, v1, v2) : ((List V) × ((List V) × Int))) =>
  (F_sig_width v2).bind fun (v3 : Int) =>
  (F_cursor_Put (v0, wu64 (len v1), v3)).bind fun ((v4, v5) : ((List V) × Int)) =>
    if List.length (all v4) + List.length v1 ≤ 2147483648 then
        some (all v4 ++ v1)
      else
        none
noncomputable def fn_sig_put : Fn := ⟨138, [.v (.lst true 1), .v (.lst true 1), .v (.int .i64)], .pure (.one (.t (.own 5))) 3, F_sig_put⟩
theorem t_sig_put : GoodAt Try.prog HH HSP 2 fn_sig_put := goodAt_of (ho := HO) (l := [fn_sig_width, fn_cursor_Put]) rfl (hl1 (t_sig_width.up (by decide)) (hl1 (t_cursor_Put.up (by decide)) hl0)) fun x => by kernel_rfl

noncomputable def F_sig_begin : Ps [.v (.st rapi_Sig), .v (.lst true 1)] → Option (Rc.I (.pure (.one (.t (.own 5))) 2)) := fun (((v0, v1, v2, v3, v4, v5, v6, v7, v8, v9), v10) : ((Int × (Int × (Int × (Int × ((List V) × ((List V) × (Int × (Int × ((List V) × (List V)))))))))) × (List V))) =>
  (F_sig_put ([V.int .u8 (wu8 v0), V.int .u8 (wu8 v1), V.int .u8 (wu8 v2), V.int .u8 (wu8 v3)], v10, v0)).bind fun (v11 : (List V)) =>
  some (v11)
noncomputable def fn_sig_begin : Fn := ⟨105, [.v (.st rapi_Sig), .v (.lst true 1)], .pure (.one (.t (.own 5))) 2, F_sig_begin⟩
theorem t_sig_begin : GoodAt Try.prog HH HSP 3 fn_sig_begin := goodAt_of (ho := HO) (l := [fn_sig_put]) rfl (hl1 (t_sig_put.up (by decide)) hl0) fun x => by kernel_rfl

noncomputable def F_math_bits_Len32 : Ps [.v (.int .u32)] → Option (Rc.I (.pure (.one (.t (.v (.int .i64)))) 1)) := fun (v0 : Int) =>
  (if decide (v0 ≥ 65536) = true then
      some (.inl ((wordShr .u32 v0 16, 16)))
    else
      some (.inl ((v0, 0))) : Option ((Int × Int) ⊕ Int)).bind fun v1 =>
  match v1 with
    | .inl (v2, v3) =>
      (if decide (v2 ≥ 256) = true then
          some (.inl ((wordShr .u32 v2 8, w64 (v3 + 8))))
        else
          some (.inl ((v2, v3))) : Option ((Int × Int) ⊕ Int)).bind fun v4 =>
      match v4 with
        | .inl (v5, v6) =>
          if 0 ≤ wu8 v5 then
            ((List.append (List.append (by8 [0, 1, 2, 2, 3, 3, 3, 3, 4, 4, 4, 4, 4, 4, 4, 4, 5, 5, 5, 5, 5, 5, 5, 5, 5, 5, 5, 5, 5, 5, 5, 5, 6, 6, 6, 6, 6, 6, 6, 6, 6, 6, 6, 6, 6, 6, 6, 6, 6, 6, 6, 6, 6, 6, 6, 6, 6, 6, 6, 6, 6, 6, 6, 6]) (by8 [7, 7, 7, 7, 7, 7, 7, 7, 7, 7, 7, 7, 7, 7, 7, 7, 7, 7, 7, 7, 7, 7, 7, 7, 7, 7, 7, 7, 7, 7, 7, 7, 7, 7, 7, 7, 7, 7, 7, 7, 7, 7, 7, 7, 7, 7, 7, 7, 7, 7, 7, 7, 7, 7, 7, 7, 7, 7, 7, 7, 7, 7, 7, 7])) (List.append (by8 [8, 8, 8, 8, 8, 8, 8, 8, 8, 8, 8, 8, 8, 8, 8, 8, 8, 8, 8, 8, 8, 8, 8, 8, 8, 8, 8, 8, 8, 8, 8, 8, 8, 8, 8, 8, 8, 8, 8, 8, 8, 8, 8, 8, 8, 8, 8, 8, 8, 8, 8, 8, 8, 8, 8, 8, 8, 8, 8, 8, 8, 8, 8, 8]) (by8 [8, 8, 8, 8, 8, 8, 8, 8, 8, 8, 8, 8, 8, 8, 8, 8, 8, 8, 8, 8, 8, 8, 8, 8, 8, 8, 8, 8, 8, 8, 8, 8, 8, 8, 8, 8, 8, 8, 8, 8, 8, 8, 8, 8, 8, 8, 8, 8, 8, 8, 8, 8, 8, 8, 8, 8, 8, 8, 8, 8, 8, 8, 8, 8])))[Int.toNat (wu8 v5)]?).bind fun v7 =>
            some (w64 (v6 + w64 (↑(UInt8.toNat v7) : Int)))
          else
            none
        | .inr v8 =>
          some (v8)
    | .inr v9 =>
      some (v9)
noncomputable def fn_math_bits_Len32 : Fn := ⟨110, [.v (.int .u32)], .pure (.one (.t (.v (.int .i64)))) 1, F_math_bits_Len32⟩
theorem t_math_bits_Len32 : GoodAt Try.prog HH HSP 1 fn_math_bits_Len32 := goodAt_of (ho := HO) (l := []) rfl hl0 fun x => by kernel_rfl

noncomputable def F_nat_down : Ps [.v (.lst false 1)] → Option (Rc.I (.pure (.one (.t (.v (.clo1 146 (.lst false 1))))) 1)) := fun (v0 : (List V)) =>
  some (v0)
noncomputable def fn_nat_down : Fn := ⟨109, [.v (.lst false 1)], .pure (.one (.t (.v (.clo1 146 (.lst false 1))))) 1, F_nat_down⟩
theorem t_nat_down : GoodAt Try.prog HH HSP 1 fn_nat_down := goodAt_of (ho := HO) (l := []) rfl hl0 fun x => by kernel_rfl

noncomputable def F_nat_Bits : Ps [.v (.lst false 1)] → Option (Rc.I (.pure (.one (.t (.v (.int .i64)))) 1)) := fun (v0 : (List V)) =>
  (F_nat_down v0).bind fun (v1 : (List V)) =>
  (downItems .u32 v1).bind fun v2 =>
    loopO (σ := ((List (List V)) × (Int × (List V)))) (R := Int) (fun (v3, v4, v5) =>
        match v3 with
        | [] =>
          some (.inr (0))
        | v6 :: v7 =>
          (v6[0]?).bind fun v8 =>
          (V.int? .i64 v8).bind fun v9 =>
            (v6[1]?).bind fun v10 =>
              (V.int? .u32 v10).bind fun v11 =>
                if List.length v6 = 2 then
                    if (v11 != 0) = true then
                      (F_math_bits_Len32 v11).bind fun (v12 : Int) =>
                      some (.inr (w64 (w64 (32 * v9) + v12)))
                    else
                      some (.inl ((v7, v4, v5)))
                  else
                    none) ((v2, 0, v1))
noncomputable def fn_nat_Bits : Fn := ⟨73, [.v (.lst false 1)], .pure (.one (.t (.v (.int .i64)))) 1, F_nat_Bits⟩
theorem t_nat_Bits : GoodAt Try.prog HH HSP 2 fn_nat_Bits := goodAt_of (ho := HO) (l := [fn_nat_down, fn_math_bits_Len32]) rfl (hl1 (t_nat_down.up (by decide)) (hl1 (t_math_bits_Len32.up (by decide)) hl0)) fun x => by kernel_rfl

noncomputable def F_bytes_Equal : Ps [.v (.lst true 1), .v (.lst true 1)] → Option (Rc.I (.pure (.one (.t (.v .bool))) 2)) := fun ((v0, v1) : ((List V) × (List V))) =>
  (unbytes v0).bind fun v2 =>
  (unbytes v1).bind fun v3 =>
    some (v2 == v3)
noncomputable def fn_bytes_Equal : Fn := ⟨42, [.v (.lst true 1), .v (.lst true 1)], .pure (.one (.t (.v .bool))) 2, F_bytes_Equal⟩
theorem t_bytes_Equal : GoodAt Try.prog HH HSP 1 fn_bytes_Equal := goodAt_of (ho := HO) (l := []) rfl hl0 fun x => by kernel_rfl

noncomputable def F_nat_word : Ps [.v (.lst true 1), .v (.int .i64)] → Option (Rc.I (.pure (.one (.t (.v (.int .u32)))) 2)) := fun ((v0, v1) : ((List V) × Int)) =>
  if decide (v1 < len v0) = true then
    if 0 ≤ v1 then
      (v0[Int.toNat v1]?).bind fun v2 =>
      (V.int? .u32 v2).bind fun v3 =>
        some (v3)
    else
      none
  else
    some (0)
noncomputable def fn_nat_word : Fn := ⟨167, [.v (.lst true 1), .v (.int .i64)], .pure (.one (.t (.v (.int .u32)))) 2, F_nat_word⟩
theorem t_nat_word : GoodAt Try.prog HH HSP 1 fn_nat_word := goodAt_of (ho := HO) (l := []) rfl hl0 fun x => by kernel_rfl

noncomputable def F_nat_lay : Ps [.v (.lst true 1), .v (.int .i64)] → Option (Rc.I (.pure (.one (.t (.own 5))) 2)) := fun ((v0, v1) : ((List V) × Int)) =>
  if 0 ≤ v1 ∧ v1 ≤ v1 ∧ v1 ≤ 2147483648 then
    loopO (σ := ((List V) × (Int × ((List V) × (Int × Int))))) (R := (List V)) (fun (v2, v3, v4, v5, v6) =>
      if decide (v6 < v5) = true then
        (F_nat_word (v2, w64 (Int.tdiv v6 4))).bind fun (v7 : Int) =>
        if w64 (8 * Int.tmod v6 4) < 0 then
            none
          else
            if 0 ≤ w64 (w64 (v3 - 1) - v6) ∧ w64 (w64 (v3 - 1) - v6) < len v4 then
              (v4[0 + Int.toNat (w64 (w64 (v3 - 1) - v6))]?).bind fun v8 =>
              some (.inl ((v2, v3, List.set v4 (0 + Int.toNat (w64 (w64 (v3 - 1) - v6))) (storeEl v8 0 (V.cells (V.int .u8 (wu8 (wordShr .u32 v7 (w64 (8 * Int.tmod v6 4))))))), v5, w64 (v6 + 1))))
            else
              none
      else
        some (.inr (all v4))) ((v0, v1, rep (Int.toNat v1) (V.int .u8 0), len (rep (Int.toNat v1) (V.int .u8 0)), 0))
  else
    none
noncomputable def fn_nat_lay : Fn := ⟨133, [.v (.lst true 1), .v (.int .i64)], .pure (.one (.t (.own 5))) 2, F_nat_lay⟩
theorem t_nat_lay : GoodAt Try.prog HH HSP 2 fn_nat_lay := goodAt_of (ho := HO) (l := [fn_nat_word]) rfl (hl1 (t_nat_word.up (by decide)) hl0) fun x => by kernel_rfl

noncomputable def F_nat_long : Ps [.v (.lst false 1)] → Option (Rc.I (.pure (.one (.t (.v (.int .i64)))) 1)) := fun (v0 : (List V)) =>
  (F_nat_Bits v0).bind fun (v1 : Int) =>
  some (w64 (Int.tdiv (w64 (v1 + 7)) 8))
noncomputable def fn_nat_long : Fn := ⟨134, [.v (.lst false 1)], .pure (.one (.t (.v (.int .i64)))) 1, F_nat_long⟩
theorem t_nat_long : GoodAt Try.prog HH HSP 3 fn_nat_long := goodAt_of (ho := HO) (l := [fn_nat_Bits]) rfl (hl1 (t_nat_Bits.up (by decide)) hl0) fun x => by kernel_rfl

noncomputable def F_nat_Bytes : Ps [.v (.lst false 1)] → Option (Rc.I (.pure (.one (.t (.own 5))) 1)) := fun (v0 : (List V)) =>
  (F_nat_long v0).bind fun (v1 : Int) =>
  (F_nat_lay (v0, v1)).bind fun (v2 : (List V)) =>
    some (v2)
noncomputable def fn_nat_Bytes : Fn := ⟨100, [.v (.lst false 1)], .pure (.one (.t (.own 5))) 1, F_nat_Bytes⟩
theorem t_nat_Bytes : GoodAt Try.prog HH HSP 4 fn_nat_Bytes := goodAt_of (ho := HO) (l := [fn_nat_long, fn_nat_lay]) rfl (hl1 (t_nat_long.up (by decide)) (hl1 (t_nat_lay.up (by decide)) hl0)) fun x => by kernel_rfl

noncomputable def F_nat_trim : Ps [.v (.lst false 1)] → Option (Rc.I (.pure (.one (.t (.v (.lst false 1)))) 1)) := fun (v0 : (List V)) =>
  loopO (σ := ((List V) × Int)) (R := (List V)) (fun (v1, v2) =>
    (if decide (v2 > 0) = true then
        if 0 ≤ w64 (v2 - 1) then
          (v1[Int.toNat (w64 (v2 - 1))]?).bind fun v3 =>
          (V.int? .u32 v3).bind fun v4 =>
            some (v4 == 0)
        else
          none
      else
        some (false) : Option Bool).bind fun v5 =>
    if v5 = true then
        some (.inl ((v1, w64 (v2 - 1))))
      else
        (if 0 ≤ v2 then
            if 0 ≤ v2 then
              if 0 ≤ Int.toNat v2 ∧ Int.toNat v2 = Int.toNat v2 ∧ Int.toNat v2 ≤ List.length v1 then
                some (List.take (Int.toNat v2) (List.drop 0 v1))
              else
                none
            else
              none
          else
            none : Option (List V)).bind fun v6 =>
        some (.inr (v6))) ((v0, len v0))
noncomputable def fn_nat_trim : Fn := ⟨168, [.v (.lst false 1)], .pure (.one (.t (.v (.lst false 1)))) 1, F_nat_trim⟩
theorem t_nat_trim : GoodAt Try.prog HH HSP 1 fn_nat_trim := goodAt_of (ho := HO) (l := []) rfl hl0 fun x => by kernel_rfl

noncomputable def F_nat_Read : Ps [.v (.lst true 1)] → Option (Rc.I (.pure (.one (.t (.v (.lst false 1)))) 1)) := fun (v0 : (List V)) =>
  if 0 ≤ w64 (Int.tdiv (w64 (len v0 + 3)) 4) ∧ w64 (Int.tdiv (w64 (len v0 + 3)) 4) ≤ w64 (Int.tdiv (w64 (len v0 + 3)) 4) ∧ w64 (Int.tdiv (w64 (len v0 + 3)) 4) ≤ 2147483648 then
    loopO (σ := ((List V) × ((List V) × ((List V) × (Int × Int))))) (R := (List V)) (fun (v1, v2, v3, v4, v5) =>
      if decide (v5 < v4) = true then
        if 0 ≤ v5 then
          (v3[Int.toNat v5]?).bind fun v6 =>
          (V.int? .u8 v6).bind fun v7 =>
            if 0 ≤ w64 (Int.tdiv (w64 (w64 (len v1 - 1) - v5)) 4) ∧ w64 (Int.tdiv (w64 (w64 (len v1 - 1) - v5)) 4) < len v2 then
                (v2[0 + Int.toNat (w64 (Int.tdiv (w64 (w64 (len v1 - 1) - v5)) 4))]?).bind fun v8 =>
                ((V.cells v8)[0]?).bind fun v9 =>
                  (V.int? .u32 v9).bind fun v10 =>
                    if w64 (8 * Int.tmod (w64 (w64 (len v1 - 1) - v5)) 4) < 0 then
                        none
                      else
                        if 0 ≤ w64 (Int.tdiv (w64 (w64 (len v1 - 1) - v5)) 4) ∧ w64 (Int.tdiv (w64 (w64 (len v1 - 1) - v5)) 4) < len v2 then
                          (v2[0 + Int.toNat (w64 (Int.tdiv (w64 (w64 (len v1 - 1) - v5)) 4))]?).bind fun v11 =>
                          some (.inl ((v1, List.set v2 (0 + Int.toNat (w64 (Int.tdiv (w64 (w64 (len v1 - 1) - v5)) 4))) (storeEl v11 0 (V.cells (V.int .u32 (wordOr .u32 v10 (wordShl .u32 (wu32 v7) (w64 (8 * Int.tmod (w64 (w64 (len v1 - 1) - v5)) 4))))))), v3, v4, w64 (v5 + 1))))
                        else
                          none
              else
                none
        else
          none
      else
        ((F_nat_trim (all v2)).bind fun (v12 : (List V)) =>
          some (v12) : Option (List V)).bind fun v13 =>
        some (.inr (v13))) ((v0, rep (Int.toNat (w64 (Int.tdiv (w64 (len v0 + 3)) 4))) (V.int .u32 0), v0, len v0, 0))
  else
    none
noncomputable def fn_nat_Read : Fn := ⟨135, [.v (.lst true 1)], .pure (.one (.t (.v (.lst false 1)))) 1, F_nat_Read⟩
theorem t_nat_Read : GoodAt Try.prog HH HSP 2 fn_nat_Read := goodAt_of (ho := HO) (l := [fn_nat_trim]) rfl (hl1 (t_nat_trim.up (by decide)) hl0) fun x => by kernel_rfl

noncomputable def F_sig_isValue : Ps [.v (.st rapi_Sig)] → Option (Rc.I (.pure (.one (.t (.v .bool))) 1)) := fun ((v0, v1, v2, v3, v4, v5, v6, v7, v8, v9) : (Int × (Int × (Int × (Int × ((List V) × ((List V) × (Int × (Int × ((List V) × (List V))))))))))) =>
  if (v2 == 27) = true then
    some (len v9 == 64)
  else
    (F_nat_Read v9).bind fun (v10 : (List V)) =>
    ((F_nat_Bytes v10).bind fun (v11 : (List V)) =>
        (F_bytes_Equal (all v11, v9)).bind fun (v12 : Bool) =>
          if v12 = true then
              (F_nat_Bits v10).bind fun (v13 : Int) =>
              some (decide (v13 ≤ 16384))
            else
              some (false) : Option Bool).bind fun v14 =>
      some (v14)
noncomputable def fn_sig_isValue : Fn := ⟨174, [.v (.st rapi_Sig)], .pure (.one (.t (.v .bool))) 1, F_sig_isValue⟩
theorem t_sig_isValue : GoodAt Try.prog HH HSP 5 fn_sig_isValue := goodAt_of (ho := HO) (l := [fn_nat_Read, fn_nat_Bytes, fn_bytes_Equal, fn_nat_Bits]) rfl (hl1 (t_nat_Read.up (by decide)) (hl1 (t_nat_Bytes.up (by decide)) (hl1 (t_bytes_Equal.up (by decide)) (hl1 (t_nat_Bits.up (by decide)) hl0)))) fun x => by kernel_rfl

noncomputable def F_sig_SaltSize : Ps [.v (.int .i64)] → Option (Rc.I (.pure (.one (.t (.v (.int .i64)))) 1)) := fun (v0 : Int) =>
  (if (v0 == 11) = true then
      some (.inl ((v0, v0 == 11)))
    else
      some (.inl ((v0, v0 == 8))) : Option ((Int × Bool) ⊕ Int)).bind fun v1 =>
  match v1 with
    | .inl (v2, v3) =>
      if v3 = true then
        some (16)
      else
        if (v2 == 9) = true then
          some (24)
        else
          if (v2 == 10) = true then
            some (32)
          else
            some (0)
    | .inr v4 =>
      some (v4)
noncomputable def fn_sig_SaltSize : Fn := ⟨193, [.v (.int .i64)], .pure (.one (.t (.v (.int .i64)))) 1, F_sig_SaltSize⟩
theorem t_sig_SaltSize : GoodAt Try.prog HH HSP 1 fn_sig_SaltSize := goodAt_of (ho := HO) (l := []) rfl hl0 fun x => by kernel_rfl

noncomputable def F_sig_isSalt : Ps [.v (.st rapi_Sig)] → Option (Rc.I (.pure (.one (.t (.v .bool))) 1)) := fun ((v0, v1, v2, v3, v4, v5, v6, v7, v8, v9) : (Int × (Int × (Int × (Int × ((List V) × ((List V) × (Int × (Int × ((List V) × (List V))))))))))) =>
  if (v0 == 4) = true then
    some (len v8 == 0)
  else
    (F_sig_SaltSize v3).bind fun (v10 : Int) =>
    some (len v8 == v10)
noncomputable def fn_sig_isSalt : Fn := ⟨173, [.v (.st rapi_Sig)], .pure (.one (.t (.v .bool))) 1, F_sig_isSalt⟩
theorem t_sig_isSalt : GoodAt Try.prog HH HSP 2 fn_sig_isSalt := goodAt_of (ho := HO) (l := [fn_sig_SaltSize]) rfl (hl1 (t_sig_SaltSize.up (by decide)) hl0) fun x => by kernel_rfl

noncomputable def F_hash_Size : Ps [.v (.int .i64)] → Option (Rc.I (.pure (.one (.t (.v (.int .i64)))) 1)) := fun (v0 : Int) =>
  if (v0 == 2) = true then
    some (20)
  else
    if (v0 == 11) = true then
      some (28)
    else
      if (v0 == 8) = true then
        some (32)
      else
        if (v0 == 9) = true then
          some (48)
        else
          if (v0 == 10) = true then
            some (64)
          else
            some (0)
noncomputable def fn_hash_Size : Fn := ⟨131, [.v (.int .i64)], .pure (.one (.t (.v (.int .i64)))) 1, F_hash_Size⟩
theorem t_hash_Size : GoodAt Try.prog HH HSP 1 fn_hash_Size := goodAt_of (ho := HO) (l := []) rfl hl0 fun x => by kernel_rfl

noncomputable def F_hash_Weak : Ps [.v (.int .i64)] → Option (Rc.I (.pure (.one (.t (.v .bool))) 1)) := fun (v0 : Int) =>
  (if (v0 == 2) = false then
      (F_hash_Size v0).bind fun (v1 : Int) =>
      some (v1 == 0)
    else
      some (true) : Option Bool).bind fun v2 =>
  some (v2)
noncomputable def fn_hash_Weak : Fn := ⟨192, [.v (.int .i64)], .pure (.one (.t (.v .bool))) 1, F_hash_Weak⟩
theorem t_hash_Weak : GoodAt Try.prog HH HSP 2 fn_hash_Weak := goodAt_of (ho := HO) (l := [fn_hash_Size]) rfl (hl1 (t_hash_Size.up (by decide)) hl0) fun x => by kernel_rfl

noncomputable def F_sig_isHash : Ps [.v (.int .i64), .v (.int .i64)] → Option (Rc.I (.pure (.one (.t (.v .bool))) 2)) := fun ((v0, v1) : (Int × Int)) =>
  ((F_hash_Size v0).bind fun (v2 : Int) =>
    if decide (v2 > 0) = true then
        if (v1 == 6) = true then
          (F_hash_Weak v0).bind fun (v3 : Bool) =>
          some (!v3)
        else
          some (!false)
      else
        some (false) : Option Bool).bind fun v4 =>
  some (v4)
noncomputable def fn_sig_isHash : Fn := ⟨172, [.v (.int .i64), .v (.int .i64)], .pure (.one (.t (.v .bool))) 2, F_sig_isHash⟩
theorem t_sig_isHash : GoodAt Try.prog HH HSP 3 fn_sig_isHash := goodAt_of (ho := HO) (l := [fn_hash_Size, fn_hash_Weak]) rfl (hl1 (t_hash_Size.up (by decide)) (hl1 (t_hash_Weak.up (by decide)) hl0)) fun x => by kernel_rfl

noncomputable def F_sig_isPub : Ps [.v (.int .i64)] → Option (Rc.I (.pure (.one (.t (.v .bool))) 1)) := fun (v0 : Int) =>
  (if (v0 == 1) = false then
      some (v0 == 27)
    else
      some (true) : Option Bool).bind fun v1 =>
  some (v1)
noncomputable def fn_sig_isPub : Fn := ⟨171, [.v (.int .i64)], .pure (.one (.t (.v .bool))) 1, F_sig_isPub⟩
theorem t_sig_isPub : GoodAt Try.prog HH HSP 1 fn_sig_isPub := goodAt_of (ho := HO) (l := []) rfl hl0 fun x => by kernel_rfl

noncomputable def F_sig_isVersion : Ps [.v (.int .i64)] → Option (Rc.I (.pure (.one (.t (.v .bool))) 1)) := fun (v0 : Int) =>
  (if (v0 == 4) = false then
      some (v0 == 6)
    else
      some (true) : Option Bool).bind fun v1 =>
  some (v1)
noncomputable def fn_sig_isVersion : Fn := ⟨170, [.v (.int .i64)], .pure (.one (.t (.v .bool))) 1, F_sig_isVersion⟩
theorem t_sig_isVersion : GoodAt Try.prog HH HSP 1 fn_sig_isVersion := goodAt_of (ho := HO) (l := []) rfl hl0 fun x => by kernel_rfl

noncomputable def F_sig_may : Ps [.v (.st rapi_Sig)] → Option (Rc.I (.pure (.one (.t (.v .bool))) 1)) := fun ((v0, v1, v2, v3, v4, v5, v6, v7, v8, v9) : (Int × (Int × (Int × (Int × ((List V) × ((List V) × (Int × (Int × ((List V) × (List V))))))))))) =>
  ((F_sig_isVersion v0).bind fun (v10 : Bool) =>
    if v10 = true then
        if decide (v1 ≥ 0) = true then
          if decide (v1 ≤ 255) = true then
            (F_sig_isPub v2).bind fun (v11 : Bool) =>
            if v11 = true then
                (F_sig_isHash (v3, v0)).bind fun (v12 : Bool) =>
                if v12 = true then
                    (F_sig_isSalt (v0, v1, v2, v3, v4, v5, v6, v7, v8, v9)).bind fun (v13 : Bool) =>
                    if v13 = true then
                        (F_sig_isValue (v0, v1, v2, v3, v4, v5, v6, v7, v8, v9)).bind fun (v14 : Bool) =>
                        some (v14)
                      else
                        some (false)
                  else
                    some (false)
              else
                some (false)
          else
            some (false)
        else
          some (false)
      else
        some (false) : Option Bool).bind fun v15 =>
  some (v15)
noncomputable def fn_sig_may : Fn := ⟨137, [.v (.st rapi_Sig)], .pure (.one (.t (.v .bool))) 1, F_sig_may⟩
theorem t_sig_may : GoodAt Try.prog HH HSP 6 fn_sig_may := goodAt_of (ho := HO) (l := [fn_sig_isVersion, fn_sig_isPub, fn_sig_isHash, fn_sig_isSalt, fn_sig_isValue]) rfl (hl1 (t_sig_isVersion.up (by decide)) (hl1 (t_sig_isPub.up (by decide)) (hl1 (t_sig_isHash.up (by decide)) (hl1 (t_sig_isSalt.up (by decide)) (hl1 (t_sig_isValue.up (by decide)) hl0))))) fun x => by kernel_rfl

noncomputable def F_subpkt_put : Ps [.mv 5, .v (.st rapi_Sub)] → Option (Rc.I (.pure (.one (.t (.own 5))) 2)) := fun ((v0, v1, v2, v3) : ((List V) × (Int × (Bool × (List V))))) =>
  (if decide (w64 (len v3 + 1) < 192) = true then
      if List.length (all v0) + 1 ≤ 2147483648 then
        some (.inl ((all v0 ++ [V.int .u8 (wu8 (w64 (len v3 + 1)))], w64 (len v3 + 1))))
      else
        none
    else
      (if decide (w64 (len v3 + 1) < 16320) = true then
          if List.length (all v0) + 2 ≤ 2147483648 then
            some (.inl ((all v0 ++ [V.int .u8 (wu8 (wu8 (wordShr .i64 (w64 (w64 (len v3 + 1) - 192)) 8) + 192)), V.int .u8 (wu8 (w64 (w64 (len v3 + 1) - 192)))], w64 (w64 (len v3 + 1) - 192))))
          else
            none
        else
          if List.length (all v0) + 1 ≤ 2147483648 then
            (F_cursor_Put (all (all v0 ++ [V.int .u8 255]), wu64 (w64 (len v3 + 1)), 4)).bind fun ((v4, v5) : ((List V) × Int)) =>
            some (.inl ((v4, w64 (len v3 + 1))))
          else
            none : Option (((List V) × Int) ⊕ (((List V) × Int) ⊕ (List V)))).bind fun v6 =>
      match v6 with
        | .inl (v7, v8) =>
          some (.inl ((v7, v8)))
        | .inr v9 =>
          some (v9) : Option (((List V) × Int) ⊕ (List V))).bind fun v10 =>
  match v10 with
    | .inl (v11, v12) =>
      (if v2 = true then
          some (.inl (wordOr .u8 (wu8 v1) 128))
        else
          some (.inl (wu8 v1)) : Option (Int ⊕ (List V))).bind fun v13 =>
      match v13 with
        | .inl v14 =>
          if List.length (all v11) + 1 ≤ 2147483648 then
            if List.length (all v11 ++ [V.int .u8 v14]) + List.length v3 ≤ 2147483648 then
              some (all v11 ++ [V.int .u8 v14] ++ v3)
            else
              none
          else
            none
        | .inr v15 =>
          some (v15)
    | .inr v16 =>
      some (v16)
noncomputable def fn_subpkt_put : Fn := ⟨169, [.mv 5, .v (.st rapi_Sub)], .pure (.one (.t (.own 5))) 2, F_subpkt_put⟩
theorem t_subpkt_put : GoodAt Try.prog HH HSP 2 fn_subpkt_put := goodAt_of (ho := HO) (l := [fn_cursor_Put]) rfl (hl1 (t_cursor_Put.up (by decide)) hl0) fun x => by kernel_rfl

noncomputable def F_subpkt_Emit : Ps [.v (.lst true 3)] → Option (Rc.I (.pure (.tup [.t (.own 5), .t (.v (.int .i64))]) 1)) := fun (v0 : (List V)) =>
  loopO (σ := ((List V) × (Int × ((List V) × ((List V) × (Int × Int)))))) (R := ((List V) × Int)) (fun (v1, v2, v3, v4, v5, v6) =>
    if decide (v6 < v5) = true then
      if 0 ≤ v6 then
        (v4[Int.toNat v6]?).bind fun v7 =>
        (V.st? [Cc.int .i64, Cc.bool, Cc.lst false 1] v7).bind fun (v8, v9, v10) =>
          (if decide (v8 < 0) = false then
                some (decide (v8 > 127))
              else
                some (true) : Option Bool).bind fun v11 =>
            if v11 = true then
                some (.inr ((nilV, 1)))
              else
                (F_subpkt_put (all v3, v8, v9, v10)).bind fun (v12 : (List V)) =>
                some (.inl ((v1, v2, v12, v4, v5, w64 (v6 + 1))))
      else
        none
    else
      ((if decide (len v0 > 40) = false then
            some (decide (len v3 > 4000))
          else
            some (true) : Option Bool).bind fun v13 =>
        if v13 = true then
            some ((nilV, 4))
          else
            some ((all v3, 0)) : Option ((List V) × Int)).bind fun (v14, v15) =>
      some (.inr ((v14, v15)))) ((nilV, 0, nilV, v0, len v0, 0))
noncomputable def fn_subpkt_Emit : Fn := ⟨136, [.v (.lst true 3)], .pure (.tup [.t (.own 5), .t (.v (.int .i64))]) 1, F_subpkt_Emit⟩
theorem t_subpkt_Emit : GoodAt Try.prog HH HSP 3 fn_subpkt_Emit := goodAt_of (ho := HO) (l := [fn_subpkt_put]) rfl (hl1 (t_subpkt_put.up (by decide)) hl0) fun x => by kernel_rfl

noncomputable def F_sig_areas : Ps [.v (.st rapi_Sig)] → Option (Rc.I (.pure (.tup [.t (.own 5), .t (.own 5), .t (.v (.int .i64))]) 1)) := fun ((v0, v1, v2, v3, v4, v5, v6, v7, v8, v9) : (Int × (Int × (Int × (Int × ((List V) × ((List V) × (Int × (Int × ((List V) × (List V))))))))))) =>
  (F_subpkt_Emit v4).bind fun ((v10, v11) : ((List V) × Int)) =>
  (F_subpkt_Emit v5).bind fun ((v12, v13) : ((List V) × Int)) =>
    ((F_sig_may (v0, v1, v2, v3, v4, v5, v6, v7, v8, v9)).bind fun (v14 : Bool) =>
        if (!v14) = false then
            if (v11 == 1) = false then
              some (v13 == 1)
            else
              some (true)
          else
            some (true) : Option Bool).bind fun v15 =>
      if v15 = true then
          some ((nilV, nilV, 1))
        else
          (if (v11 != 0) = false then
              some (v13 != 0)
            else
              some (true) : Option Bool).bind fun v16 =>
          if v16 = true then
              some ((nilV, nilV, 4))
            else
              some ((all v10, all v12, 0))
noncomputable def fn_sig_areas : Fn := ⟨104, [.v (.st rapi_Sig)], .pure (.tup [.t (.own 5), .t (.own 5), .t (.v (.int .i64))]) 1, F_sig_areas⟩
theorem t_sig_areas : GoodAt Try.prog HH HSP 7 fn_sig_areas := goodAt_of (ho := HO) (l := [fn_subpkt_Emit, fn_sig_may]) rfl (hl1 (t_subpkt_Emit.up (by decide)) (hl1 (t_sig_may.up (by decide)) hl0)) fun x => by kernel_rfl

noncomputable def F_sig_Hashed : Ps [.v (.st rapi_Sig)] → Option (Rc.I (.pure (.tup [.t (.own 5), .t (.v (.int .i64))]) 1)) := fun ((v0, v1, v2, v3, v4, v5, v6, v7, v8, v9) : (Int × (Int × (Int × (Int × ((List V) × ((List V) × (Int × (Int × ((List V) × (List V))))))))))) =>
  (F_sig_areas (v0, v1, v2, v3, v4, v5, v6, v7, v8, v9)).bind fun ((v10, v11, v12) : ((List V) × ((List V) × Int))) =>
  if (v12 != 0) = true then
      some ((nilV, v12))
    else
      (F_sig_begin ((v0, v1, v2, v3, v4, v5, v6, v7, v8, v9), all v10)).bind fun (v13 : (List V)) =>
      some ((v13, 0))
noncomputable def fn_sig_Hashed : Fn := ⟨68, [.v (.st rapi_Sig)], .pure (.tup [.t (.own 5), .t (.v (.int .i64))]) 1, F_sig_Hashed⟩
theorem t_sig_Hashed : GoodAt Try.prog HH HSP 8 fn_sig_Hashed := goodAt_of (ho := HO) (l := [fn_sig_areas, fn_sig_begin]) rfl (hl1 (t_sig_areas.up (by decide)) (hl1 (t_sig_begin.up (by decide)) hl0)) fun x => by kernel_rfl

noncomputable def F_image_Trailer : Ps [.v (.st rapi_Sig)] → Option (Rc.I (.pure (.tup [.t (.own 5), .t (.v (.int .i64))]) 1)) := fun ((v0, v1, v2, v3, v4, v5, v6, v7, v8, v9) : (Int × (Int × (Int × (Int × ((List V) × ((List V) × (Int × (Int × ((List V) × (List V))))))))))) =>
  (F_sig_Hashed (v0, v1, v2, v3, v4, v5, v6, v7, v8, v9)).bind fun ((v10, v11) : ((List V) × Int)) =>
  if (v11 != 0) = true then
      some ((nilV, 1))
    else
      if List.length (all v10) + 2 ≤ 2147483648 then
        (F_image_put (all (all v10 ++ [V.int .u8 (wu8 v0), V.int .u8 255]), len v10)).bind fun (v12 : (List V)) =>
        some ((v12, 0))
      else
        none
noncomputable def fn_image_Trailer : Fn := ⟨44, [.v (.st rapi_Sig)], .pure (.tup [.t (.own 5), .t (.v (.int .i64))]) 1, F_image_Trailer⟩
theorem t_image_Trailer : GoodAt Try.prog HH HSP 9 fn_image_Trailer := goodAt_of (ho := HO) (l := [fn_sig_Hashed, fn_image_put]) rfl (hl1 (t_sig_Hashed.up (by decide)) (hl1 (t_image_put.up (by decide)) hl0)) fun x => by kernel_rfl

noncomputable def F_affiantlaw25_alive : Ps [] → Option (Rc.I (.pure (.one (.t (.v .bool))) 0)) := fun (v0 : Unit) =>
  (F_image_Trailer (4, 0, 1, 8, nilV, nilV, 0, 0, nilV, nilV)).bind fun ((v1, v2) : ((List V) × Int)) =>
  (F_image_Trailer (0, 0, 0, 0, nilV, nilV, 0, 0, nilV, nilV)).bind fun ((v3, v4) : ((List V) × Int)) =>
    (if (v2 == 0) = true then
          (unbytes (all v1)).bind fun v5 =>
          if (v5 == by8 [4, 0, 1, 8, 0, 0, 4, 255, 0, 0, 0, 6]) = true then
              some (v4 == 1)
            else
              some (false)
        else
          some (false) : Option Bool).bind fun v6 =>
      some (v6)
noncomputable def fn_affiantlaw25_alive : Fn := ⟨16, [], .pure (.one (.t (.v .bool))) 0, F_affiantlaw25_alive⟩
theorem t_affiantlaw25_alive : GoodAt Try.prog HH HSP 10 fn_affiantlaw25_alive := goodAt_of (ho := HO) (l := [fn_image_Trailer]) rfl (hl1 (t_image_Trailer.up (by decide)) hl0) fun x => by kernel_rfl

noncomputable def F_image_around : Ps [.v (.st rapi_Sig), .v (.lst true 1)] → Option (Rc.I (.pure (.tup [.t (.v (.lst false 1)), .t (.v (.int .i64))]) 2)) := fun (((v0, v1, v2, v3, v4, v5, v6, v7, v8, v9), v10) : ((Int × (Int × (Int × (Int × ((List V) × ((List V) × (Int × (Int × ((List V) × (List V)))))))))) × (List V))) =>
  (F_image_Trailer (v0, v1, v2, v3, v4, v5, v6, v7, v8, v9)).bind fun ((v11, v12) : ((List V) × Int)) =>
  if (v12 != 0) = true then
      some ((nilV, v12))
    else
      if 0 + List.length v8 ≤ 2147483648 then
        loopO (σ := ((List V) × ((List V) × (Int × Int)))) (R := ((List V) × Int)) (fun (v13, v14, v15, v16) =>
          if decide (v16 < v15) = true then
            if 0 ≤ v16 then
              (v14[Int.toNat v16]?).bind fun v17 =>
              (V.lst? false 1 v17).bind fun v18 =>
                if List.length (all v13) + List.length v18 ≤ 2147483648 then
                    some (.inl ((all v13 ++ v18, v14, v15, w64 (v16 + 1))))
                  else
                    none
            else
              none
          else
            (if List.length (all v13) + List.length (all v11) ≤ 2147483648 then
                some ((all v13 ++ all v11, 0))
              else
                none : Option ((List V) × Int)).bind fun (v19, v20) =>
            some (.inr ((v19, v20)))) ((v8, v10, len v10, 0))
      else
        none
noncomputable def fn_image_around : Fn := ⟨45, [.v (.st rapi_Sig), .v (.lst true 1)], .pure (.tup [.t (.v (.lst false 1)), .t (.v (.int .i64))]) 2, F_image_around⟩
theorem t_image_around : GoodAt Try.prog HH HSP 10 fn_image_around := goodAt_of (ho := HO) (l := [fn_image_Trailer]) rfl (hl1 (t_image_Trailer.up (by decide)) hl0) fun x => by kernel_rfl

noncomputable def F_text_asIs : Ps [.v (.lst false 1)] → Option (Rc.I (.pure (.one (.t (.v (.lst false 1)))) 1)) := fun (v0 : (List V)) =>
  some (v0)
noncomputable def fn_text_asIs : Fn := ⟨53, [.v (.lst false 1)], .pure (.one (.t (.v (.lst false 1)))) 1, F_text_asIs⟩
theorem t_text_asIs : GoodAt Try.prog HH HSP 1 fn_text_asIs := goodAt_of (ho := HO) (l := []) rfl hl0 fun x => by kernel_rfl

noncomputable def F_text_each : Ps [.v (.lst false 1)] → Option (Rc.I (.pure (.one (.t (.clo 70 30 (.lst false 1)))) 1)) := fun (v0 : (List V)) =>
  some (v0)
noncomputable def fn_text_each : Fn := ⟨50, [.v (.lst false 1)], .pure (.one (.t (.clo 70 30 (.lst false 1)))) 1, F_text_each⟩
theorem t_text_each : GoodAt Try.prog HH HSP 1 fn_text_each := goodAt_of (ho := HO) (l := []) rfl hl0 fun x => by kernel_rfl

noncomputable def F_text_join__text_asIs : Ps [.v (.lst false 1), .v .str, .v (.fn0 53)] → Option (Rc.I (.pure (.one (.t (.own 5))) 3)) := fun ((v0, v1, v2) : ((List V) × ((List UInt8) × Unit))) =>
  (F_text_each v0).bind fun (v3 : (List V)) =>
  (eachItems false v3).bind fun v4 =>
    loopO (σ := ((List (List V)) × ((List UInt8) × (Unit × ((List V) × Bool))))) (R := (List V)) (fun (v5, v6, v7, v8, v9) =>
        match v5 with
        | [] =>
          some (.inr (all v8))
        | v10 :: v11 =>
          (v10[0]?).bind fun v12 =>
          (V.lst? false 1 v12).bind fun v13 =>
            if List.length v10 = 1 then
                (if (!v9) = true then
                    if List.length (all v8) + List.length (bytesV v6) ≤ 2147483648 then
                      some (.inl ((v6, all v8 ++ bytesV v6)))
                    else
                      none
                  else
                    some (.inl ((v6, v8))) : Option (((List UInt8) × (List V)) ⊕ (((List (List V)) × ((List UInt8) × (Unit × ((List V) × Bool)))) ⊕ (List V)))).bind fun v14 =>
                match v14 with
                  | .inl (v15, v16) =>
                    (F_text_asIs v13).bind fun (v17 : (List V)) =>
                    if List.length (all v16) + List.length v17 ≤ 2147483648 then
                        some (.inl ((v11, v15, PUnit.unit, all v16 ++ v17, false)))
                      else
                        none
                  | .inr v18 =>
                    some (v18)
              else
                none) ((v4, v1, PUnit.unit, nilV, true))
noncomputable def fn_text_join__text_asIs : Fn := ⟨52, [.v (.lst false 1), .v .str, .v (.fn0 53)], .pure (.one (.t (.own 5))) 3, F_text_join__text_asIs⟩
theorem t_text_join__text_asIs : GoodAt Try.prog HH HSP 2 fn_text_join__text_asIs := goodAt_of (ho := HO) (l := [fn_text_each, fn_text_asIs]) rfl (hl1 (t_text_each.up (by decide)) (hl1 (t_text_asIs.up (by decide)) hl0)) fun x => by kernel_rfl

noncomputable def F_text_Canon : Ps [.v (.lst false 1)] → Option (Rc.I (.pure (.one (.t (.own 5))) 1)) := fun (v0 : (List V)) =>
  (F_text_join__text_asIs (v0, by8 [13, 10], PUnit.unit)).bind fun (v1 : (List V)) =>
  some (v1)
noncomputable def fn_text_Canon : Fn := ⟨26, [.v (.lst false 1)], .pure (.one (.t (.own 5))) 1, F_text_Canon⟩
theorem t_text_Canon : GoodAt Try.prog HH HSP 3 fn_text_Canon := goodAt_of (ho := HO) (l := [fn_text_join__text_asIs]) rfl (hl1 (t_text_join__text_asIs.up (by decide)) hl0) fun x => by kernel_rfl

noncomputable def F_image_Document : Ps [.v (.st rapi_Sig), .v (.lst false 1)] → Option (Rc.I (.pure (.tup [.t (.v (.lst false 1)), .t (.v (.int .i64))]) 2)) := fun (((v0, v1, v2, v3, v4, v5, v6, v7, v8, v9), v10) : ((Int × (Int × (Int × (Int × ((List V) × ((List V) × (Int × (Int × ((List V) × (List V)))))))))) × (List V))) =>
  if decide (len v10 > 60000) = true then
    some ((nilV, 4))
  else
    (if (v1 == 1) = true then
        (F_text_Canon v10).bind fun (v11 : (List V)) =>
        some (.inl (v11))
      else
        some (.inl (v10)) : Option ((List V) ⊕ ((List V) × Int))).bind fun v12 =>
    match v12 with
      | .inl v13 =>
        (F_image_around ((v0, v1, v2, v3, v4, v5, v6, v7, v8, v9), [V.sl false false 1 v13])).bind fun ((v14, v15) : ((List V) × Int)) =>
        some ((v14, v15))
      | .inr (v16, v17) =>
        some ((v16, v17))
noncomputable def fn_image_Document : Fn := ⟨23, [.v (.st rapi_Sig), .v (.lst false 1)], .pure (.tup [.t (.v (.lst false 1)), .t (.v (.int .i64))]) 2, F_image_Document⟩
theorem t_image_Document : GoodAt Try.prog HH HSP 11 fn_image_Document := goodAt_of (ho := HO) (l := [fn_text_Canon, fn_image_around]) rfl (hl1 (t_text_Canon.up (by decide)) (hl1 (t_image_around.up (by decide)) hl0)) fun x => by kernel_rfl

noncomputable def F_text_Plain : Ps [.v (.lst false 1)] → Option (Rc.I (.pure (.one (.t (.own 5))) 1)) := fun (v0 : (List V)) =>
  (F_text_join__text_asIs (v0, by8 [10], PUnit.unit)).bind fun (v1 : (List V)) =>
  some (v1)
noncomputable def fn_text_Plain : Fn := ⟨25, [.v (.lst false 1)], .pure (.one (.t (.own 5))) 1, F_text_Plain⟩
theorem t_text_Plain : GoodAt Try.prog HH HSP 3 fn_text_Plain := goodAt_of (ho := HO) (l := [fn_text_join__text_asIs]) rfl (hl1 (t_text_join__text_asIs.up (by decide)) hl0) fun x => by kernel_rfl

noncomputable def F_text_Lines : Ps [.v (.lst false 1)] → Option (Rc.I (.pure (.one (.t (.own 30))) 1)) := fun (v0 : (List V)) =>
  (F_text_each v0).bind fun (v1 : (List V)) =>
  (eachItems false v1).bind fun v2 =>
    loopO (σ := ((List (List V)) × (List V))) (R := (List V)) (fun (v3, v4) =>
        match v3 with
        | [] =>
          some (.inr (all v4))
        | v5 :: v6 =>
          (v5[0]?).bind fun v7 =>
          (V.lst? false 1 v7).bind fun v8 =>
            if List.length v5 = 1 then
                (if List.length v8 ≤ 2147483648 then
                    some (v8)
                  else
                    none : Option (List V)).bind fun v9 =>
                if List.length (all v4) + 1 ≤ 2147483648 then
                    some (.inl ((v6, all v4 ++ [V.sl false false 1 v9])))
                  else
                    none
              else
                none) ((v2, nilV))
noncomputable def fn_text_Lines : Fn := ⟨24, [.v (.lst false 1)], .pure (.one (.t (.own 30))) 1, F_text_Lines⟩
theorem t_text_Lines : GoodAt Try.prog HH HSP 2 fn_text_Lines := goodAt_of (ho := HO) (l := [fn_text_each, fn_bytes_Clone]) rfl (hl1 (t_text_each.up (by decide)) (hl1 (t_bytes_Clone.up (by decide)) hl0)) fun x => by kernel_rfl

noncomputable def F_affiantref21_Small : Ps [.v (.lst true 3)] → Option (Rc.I (.pure (.one (.t (.v .bool))) 1)) := fun (v0 : (List V)) =>
  loopO (σ := ((List V) × (Bool × (Int × Int)))) (R := Bool) (fun (v1, v2, v3, v4) =>
    if decide (v4 < len v1) = true then
      if 0 ≤ v4 then
        (v1[Int.toNat v4]?).bind fun v5 =>
        (V.st? [Cc.int .i64, Cc.bool, Cc.lst false 1] v5).bind fun (v6, v7, v8) =>
          (if (v4 == 60) = false then
                some (decide (w64 (v3 + len v8) > 5000))
              else
                some (true) : Option Bool).bind fun v9 =>
            if v9 = true then
                some (.inr (false))
              else
                some (.inl ((v1, v2, w64 (v3 + len v8), w64 (v4 + 1))))
      else
        none
    else
      some (.inr (true))) ((v0, false, 0, 0))
noncomputable def fn_affiantref21_Small : Fn := ⟨43, [.v (.lst true 3)], .pure (.one (.t (.v .bool))) 1, F_affiantref21_Small⟩
theorem t_affiantref21_Small : GoodAt Try.prog HH HSP 1 fn_affiantref21_Small := goodAt_of (ho := HO) (l := []) rfl hl0 fun x => by kernel_rfl

noncomputable def F_affiantref22_Small : Ps [.v (.st rapi_Sig)] → Option (Rc.I (.pure (.one (.t (.v .bool))) 1)) := fun ((v0, v1, v2, v3, v4, v5, v6, v7, v8, v9) : (Int × (Int × (Int × (Int × ((List V) × ((List V) × (Int × (Int × ((List V) × (List V))))))))))) =>
  ((F_affiantref21_Small v4).bind fun (v10 : Bool) =>
    if v10 = true then
        (F_affiantref21_Small v5).bind fun (v11 : Bool) =>
        if v11 = true then
            if decide (len v8 ≤ 100) = true then
              some (decide (len v9 ≤ 2100))
            else
              some (false)
          else
            some (false)
      else
        some (false) : Option Bool).bind fun v12 =>
  some (v12)
noncomputable def fn_affiantref22_Small : Fn := ⟨15, [.v (.st rapi_Sig)], .pure (.one (.t (.v .bool))) 1, F_affiantref22_Small⟩
theorem t_affiantref22_Small : GoodAt Try.prog HH HSP 2 fn_affiantref22_Small := goodAt_of (ho := HO) (l := [fn_affiantref21_Small]) rfl (hl1 (t_affiantref21_Small.up (by decide)) hl0) fun x => by kernel_rfl

noncomputable def F_affiantlaw25_ImageText : Ps [.v (.st rapi_Sig), .v (.lst false 1)] → Option (Rc.I (.pure (.one (.t (.v .bool))) 2)) := fun (((v0, v1, v2, v3, v4, v5, v6, v7, v8, v9), v10) : ((Int × (Int × (Int × (Int × ((List V) × ((List V) × (Int × (Int × ((List V) × (List V)))))))))) × (List V))) =>
  ((F_affiantref22_Small (v0, v1, v2, v3, v4, v5, v6, v7, v8, v9)).bind fun (v11 : Bool) =>
    if (!v11) = false then
        some (decide (len v10 > 600))
      else
        some (true) : Option Bool).bind fun v12 =>
  if v12 = true then
      (F_affiantlaw25_alive PUnit.unit).bind fun (v13 : Bool) =>
      some (v13)
    else
      (F_text_Lines v10).bind fun (v14 : (List V)) =>
      loopO (σ := (Bool × ((List V) × Int))) (R := Bool) (fun (v15, v16, v17) =>
          if decide (v17 < len v16) = true then
            (if 0 ≤ v17 ∧ v17 < len v16 then
                (v16[0 + Int.toNat v17]?).bind fun v18 =>
                ((V.cells v18)[0]?).bind fun v19 =>
                  (V.lst? false 1 v19).bind fun v20 =>
                    if decide (len v20 > 0) = true then
                        if 0 ≤ v17 ∧ v17 < len v16 then
                          (v16[0 + Int.toNat v17]?).bind fun v21 =>
                          ((V.cells v21)[0]?).bind fun v22 =>
                            (V.lst? false 1 v22).bind fun v23 =>
                              if 0 ≤ v17 ∧ v17 < len v16 then
                                  (v16[0 + Int.toNat v17]?).bind fun v24 =>
                                  ((V.cells v24)[0]?).bind fun v25 =>
                                    (V.lst? false 1 v25).bind fun v26 =>
                                      if 0 ≤ w64 (len v26 - 1) then
                                          (v23[Int.toNat (w64 (len v26 - 1))]?).bind fun v27 =>
                                          (V.int? .u8 v27).bind fun v28 =>
                                            some (v28 == 13)
                                        else
                                          none
                                else
                                  none
                        else
                          none
                      else
                        some (false)
              else
                none : Option Bool).bind fun v29 =>
            if v29 = true then
                (F_affiantlaw25_alive PUnit.unit).bind fun (v30 : Bool) =>
                some (.inr (v30))
              else
                some (.inl ((v15, v16, w64 (v17 + 1))))
          else
            ((F_image_Document ((v0, 1, v2, v3, v4, v5, v6, v7, v8, v9), v10)).bind fun ((v31, v32) : ((List V) × Int)) =>
              (F_text_Plain v10).bind fun (v33 : (List V)) =>
                (F_image_Document ((v0, 1, v2, v3, v4, v5, v6, v7, v8, v9), v33)).bind fun ((v34, v35) : ((List V) × Int)) =>
                  (F_text_Canon v10).bind fun (v36 : (List V)) =>
                    (F_image_Document ((v0, 1, v2, v3, v4, v5, v6, v7, v8, v9), v36)).bind fun ((v37, v38) : ((List V) × Int)) =>
                      ((F_affiantlaw25_alive PUnit.unit).bind fun (v39 : Bool) =>
                          if v39 = true then
                              if (v32 == v35) = true then
                                if (v32 == v38) = true then
                                  (unbytes v31).bind fun v40 =>
                                  (unbytes v34).bind fun v41 =>
                                    if (v40 == v41) = true then
                                        (unbytes v31).bind fun v42 =>
                                        (unbytes v37).bind fun v43 =>
                                          some (v42 == v43)
                                      else
                                        some (false)
                                else
                                  some (false)
                              else
                                some (false)
                            else
                              some (false) : Option Bool).bind fun v44 =>
                        some (v44) : Option Bool).bind fun v45 =>
            some (.inr (v45))) ((false, v14, 0))
noncomputable def fn_affiantlaw25_ImageText : Fn := ⟨6, [.v (.st rapi_Sig), .v (.lst false 1)], .pure (.one (.t (.v .bool))) 2, F_affiantlaw25_ImageText⟩
theorem t_affiantlaw25_ImageText : GoodAt Try.prog HH HSP 12 fn_affiantlaw25_ImageText := goodAt_of (ho := HO) (l := [fn_affiantref22_Small, fn_affiantlaw25_alive, fn_text_Lines, fn_image_Document, fn_text_Plain, fn_text_Canon]) rfl (hl1 (t_affiantref22_Small.up (by decide)) (hl1 (t_affiantlaw25_alive.up (by decide)) (hl1 (t_text_Lines.up (by decide)) (hl1 (t_image_Document.up (by decide)) (hl1 (t_text_Plain.up (by decide)) (hl1 (t_text_Canon.up (by decide)) hl0)))))) fun x => by kernel_rfl

noncomputable def F_affiantlaw25_ImageCounts : Ps [.v (.st rapi_Sig), .v (.st rapi_Sig), .v (.lst false 1)] → Option (Rc.I (.pure (.one (.t (.v .bool))) 3)) := fun (((v0, v1, v2, v3, v4, v5, v6, v7, v8, v9), (v10, v11, v12, v13, v14, v15, v16, v17, v18, v19), v20) : ((Int × (Int × (Int × (Int × ((List V) × ((List V) × (Int × (Int × ((List V) × (List V)))))))))) × ((Int × (Int × (Int × (Int × ((List V) × ((List V) × (Int × (Int × ((List V) × (List V)))))))))) × (List V)))) =>
  ((F_affiantref22_Small (v0, v1, v2, v3, v4, v5, v6, v7, v8, v9)).bind fun (v21 : Bool) =>
    if (!v21) = false then
        (F_affiantref22_Small (v10, v11, v12, v13, v14, v15, v16, v17, v18, v19)).bind fun (v22 : Bool) =>
        if (!v22) = false then
            some (decide (len v20 > 600))
          else
            some (true)
      else
        some (true) : Option Bool).bind fun v23 =>
  if v23 = true then
      (F_affiantlaw25_alive PUnit.unit).bind fun (v24 : Bool) =>
      some (v24)
    else
      (if (v12 == v2) = true then
          some (.inl (((v10, v11, v12, v13, v14, v15, v16, v17, v18, v19), v0, v1, v2, v3, v4, v15, v16, v17, v8, v19)))
        else
          some (.inl (((v10, v11, v12, v13, v14, v15, v16, v17, v18, v19), v0, v1, v2, v3, v4, v15, v16, v17, v8, v9))) : Option (((Int × (Int × (Int × (Int × ((List V) × ((List V) × (Int × (Int × ((List V) × (List V)))))))))) × (Int × (Int × (Int × (Int × ((List V) × ((List V) × (Int × (Int × ((List V) × (List V))))))))))) ⊕ Bool)).bind fun v25 =>
      match v25 with
        | .inl ((v26, v27, v28, v29, v30, v31, v32, v33, v34, v35), v36, v37, v38, v39, v40, v41, v42, v43, v44, v45) =>
          (F_image_Document ((v0, v1, v2, v3, v4, v5, v6, v7, v8, v9), v20)).bind fun ((v46, v47) : ((List V) × Int)) =>
          (F_image_Document ((v36, v37, v38, v39, v40, v41, v42, v43, v44, v45), v20)).bind fun ((v48, v49) : ((List V) × Int)) =>
            (if (v47 != 0) = false then
                  some (v49 != 0)
                else
                  some (true) : Option Bool).bind fun v50 =>
              if v50 = true then
                  ((F_affiantlaw25_alive PUnit.unit).bind fun (v51 : Bool) =>
                    if v51 = true then
                        if (v47 == 0) = false then
                          if (len v46 == 0) = true then
                            if (v49 == 0) = false then
                              some (len v48 == 0)
                            else
                              some (true)
                          else
                            some (false)
                        else
                          if (v49 == 0) = false then
                            some (len v48 == 0)
                          else
                            some (true)
                      else
                        some (false) : Option Bool).bind fun v52 =>
                  some (v52)
                else
                  ((F_affiantlaw25_alive PUnit.unit).bind fun (v53 : Bool) =>
                    if v53 = true then
                        (unbytes v46).bind fun v54 =>
                        (unbytes v48).bind fun v55 =>
                          some (v54 == v55)
                      else
                        some (false) : Option Bool).bind fun v56 =>
                  some (v56)
        | .inr v57 =>
          some (v57)
noncomputable def fn_affiantlaw25_ImageCounts : Fn := ⟨5, [.v (.st rapi_Sig), .v (.st rapi_Sig), .v (.lst false 1)], .pure (.one (.t (.v .bool))) 3, F_affiantlaw25_ImageCounts⟩
theorem t_affiantlaw25_ImageCounts : GoodAt Try.prog HH HSP 12 fn_affiantlaw25_ImageCounts := goodAt_of (ho := HO) (l := [fn_affiantref22_Small, fn_affiantlaw25_alive, fn_image_Document]) rfl (hl1 (t_affiantref22_Small.up (by decide)) (hl1 (t_affiantlaw25_alive.up (by decide)) (hl1 (t_image_Document.up (by decide)) hl0))) fun x => by kernel_rfl

noncomputable def F_affiantref01_Put : Ps [.v (.lst true 1), .v (.int .u64), .v (.int .i64)] → Option (Rc.I (.pure (.tup [.t (.own 5), .t (.v (.int .i64))]) 3)) := fun ((v0, v1, v2) : ((List V) × (Int × Int))) =>
  (if decide (v2 < 1) = false then
      if decide (v2 > 8) = false then
        if decide (v2 < 8) = true then
          if wu64 (w64 (8 * v2)) < 0 then
            none
          else
            some (decide (v1 ≥ wordShl .u64 1 (wu64 (w64 (8 * v2)))))
        else
          some (false)
      else
        some (true)
    else
      some (true) : Option Bool).bind fun v3 =>
  if v3 = true then
      some ((nilV, 1))
    else
      if 0 + List.length v0 ≤ 2147483648 then
        loopO (σ := (Int × ((List V) × Int))) (R := ((List V) × Int)) (fun (v4, v5, v6) =>
          if decide (v6 ≥ 0) = true then
            if wu64 (w64 (8 * v6)) < 0 then
              none
            else
              if List.length (all v5) + 1 ≤ 2147483648 then
                some (.inl ((v4, all v5 ++ [V.int .u8 (wu8 (wordShr .u64 v4 (wu64 (w64 (8 * v6)))))], w64 (v6 - 1))))
              else
                none
          else
            some (.inr ((all v5, 0)))) ((v1, v0, w64 (v2 - 1)))
      else
        none
noncomputable def fn_affiantref01_Put : Fn := ⟨49, [.v (.lst true 1), .v (.int .u64), .v (.int .i64)], .pure (.tup [.t (.own 5), .t (.v (.int .i64))]) 3, F_affiantref01_Put⟩
theorem t_affiantref01_Put : GoodAt Try.prog HH HSP 1 fn_affiantref01_Put := goodAt_of (ho := HO) (l := []) rfl hl0 fun x => by kernel_rfl

noncomputable def F_affiantref22_width : Ps [.v (.int .i64)] → Option (Rc.I (.pure (.one (.t (.v (.int .i64)))) 1)) := fun (v0 : Int) =>
  if (v0 == 6) = true then
    some (4)
  else
    some (2)
noncomputable def fn_affiantref22_width : Fn := ⟨180, [.v (.int .i64)], .pure (.one (.t (.v (.int .i64)))) 1, F_affiantref22_width⟩
theorem t_affiantref22_width : GoodAt Try.prog HH HSP 1 fn_affiantref22_width := goodAt_of (ho := HO) (l := []) rfl hl0 fun x => by kernel_rfl

noncomputable def F_affiantref21_Emit : Ps [.v (.lst true 3)] → Option (Rc.I (.pure (.tup [.t (.own 5), .t (.v (.int .i64))]) 1)) := fun (v0 : (List V)) =>
  loopO (σ := ((List V) × ((List V) × (Int × ((List V) × Int))))) (R := ((List V) × Int)) (fun (v1, v2, v3, v4, v5) =>
    if decide (v5 < len v1) = true then
      (if 0 ≤ v5 then
          (v1[Int.toNat v5]?).bind fun v6 =>
          (V.st? [Cc.int .i64, Cc.bool, Cc.lst false 1] v6).bind fun (v7, v8, v9) =>
            if decide (v7 < 0) = false then
                if 0 ≤ v5 then
                  (v1[Int.toNat v5]?).bind fun v10 =>
                  (V.st? [Cc.int .i64, Cc.bool, Cc.lst false 1] v10).bind fun (v11, v12, v13) =>
                    some (decide (v11 > 127))
                else
                  none
              else
                some (true)
        else
          none : Option Bool).bind fun v14 =>
      if v14 = true then
          some (.inr ((nilV, 1)))
        else
          if 0 ≤ v5 then
            (v1[Int.toNat v5]?).bind fun v15 =>
            (V.st? [Cc.int .i64, Cc.bool, Cc.lst false 1] v15).bind fun (v16, v17, v18) =>
              (if decide (w64 (len v18 + 1) < 192) = true then
                    if List.length (all v4) + 1 ≤ 2147483648 then
                      some (.inl ((all v4 ++ [V.int .u8 (wu8 (w64 (len v18 + 1)))], w64 (len v18 + 1))))
                    else
                      none
                  else
                    (if decide (w64 (len v18 + 1) < 16320) = true then
                        if List.length (all v4) + 2 ≤ 2147483648 then
                          some (.inl ((all v4 ++ [V.int .u8 (wu8 (w64 (w64 (Int.tdiv (w64 (w64 (len v18 + 1) - 192)) 256) + 192))), V.int .u8 (wu8 (w64 (w64 (len v18 + 1) - 192)))], w64 (len v18 + 1))))
                        else
                          none
                      else
                        (F_affiantref01_Put ([V.int .u8 255], wu64 (w64 (len v18 + 1)), 4)).bind fun ((v19, v20) : ((List V) × Int)) =>
                        if List.length (all v4) + List.length (all v19) ≤ 2147483648 then
                            some (.inl ((all v4 ++ all v19, w64 (len v18 + 1))))
                          else
                            none : Option (((List V) × Int) ⊕ (((List V) × Int) ⊕ (((List V) × ((List V) × (Int × ((List V) × Int)))) ⊕ ((List V) × Int))))).bind fun v21 =>
                    match v21 with
                      | .inl (v22, v23) =>
                        some (.inl ((v22, v23)))
                      | .inr v24 =>
                        some (v24) : Option (((List V) × Int) ⊕ (((List V) × ((List V) × (Int × ((List V) × Int)))) ⊕ ((List V) × Int)))).bind fun v25 =>
                match v25 with
                  | .inl (v26, v27) =>
                    if 0 ≤ v5 then
                      (v1[Int.toNat v5]?).bind fun v28 =>
                      (V.st? [Cc.int .i64, Cc.bool, Cc.lst false 1] v28).bind fun (v29, v30, v31) =>
                        if 0 ≤ v5 then
                            (v1[Int.toNat v5]?).bind fun v32 =>
                            (V.st? [Cc.int .i64, Cc.bool, Cc.lst false 1] v32).bind fun (v33, v34, v35) =>
                              (if v34 = true then
                                    some (.inl (wu8 (wu8 v29 + 128)))
                                  else
                                    some (.inl (wu8 v29)) : Option (Int ⊕ (((List V) × ((List V) × (Int × ((List V) × Int)))) ⊕ ((List V) × Int)))).bind fun v36 =>
                                match v36 with
                                  | .inl v37 =>
                                    if List.length (all v26) + 1 ≤ 2147483648 then
                                      if 0 ≤ v5 then
                                        (v1[Int.toNat v5]?).bind fun v38 =>
                                        (V.st? [Cc.int .i64, Cc.bool, Cc.lst false 1] v38).bind fun (v39, v40, v41) =>
                                          if List.length (all (all v26 ++ [V.int .u8 v37])) + List.length v41 ≤ 2147483648 then
                                              some (.inl ((v1, v2, v3, all (all v26 ++ [V.int .u8 v37]) ++ v41, w64 (v5 + 1))))
                                            else
                                              none
                                      else
                                        none
                                    else
                                      none
                                  | .inr v42 =>
                                    some (v42)
                          else
                            none
                    else
                      none
                  | .inr v43 =>
                    some (v43)
          else
            none
    else
      ((if decide (len v1 > 40) = false then
            some (decide (len v4 > 4000))
          else
            some (true) : Option Bool).bind fun v44 =>
        if v44 = true then
            some ((nilV, 4))
          else
            some ((all v4, 0)) : Option ((List V) × Int)).bind fun (v45, v46) =>
      some (.inr ((v45, v46)))) ((v0, nilV, 0, nilV, 0))
noncomputable def fn_affiantref21_Emit : Fn := ⟨139, [.v (.lst true 3)], .pure (.tup [.t (.own 5), .t (.v (.int .i64))]) 1, F_affiantref21_Emit⟩
theorem t_affiantref21_Emit : GoodAt Try.prog HH HSP 2 fn_affiantref21_Emit := goodAt_of (ho := HO) (l := [fn_affiantref01_Put]) rfl (hl1 (t_affiantref01_Put.up (by decide)) hl0) fun x => by kernel_rfl

noncomputable def F_affiantref22_area : Ps [.v (.lst true 1), .v (.lst true 3), .v (.int .i64)] → Option (Rc.I (.pure (.tup [.t (.own 5), .t (.v (.int .i64))]) 3)) := fun ((v0, v1, v2) : ((List V) × ((List V) × Int))) =>
  (F_affiantref21_Emit v1).bind fun ((v3, v4) : ((List V) × Int)) =>
  if (v4 != 0) = true then
      some ((nilV, v4))
    else
      (F_affiantref22_width v2).bind fun (v5 : Int) =>
      (F_affiantref01_Put (v0, wu64 (len v3), v5)).bind fun ((v6, v7) : ((List V) × Int)) =>
        if List.length (all v6) + List.length (all v3) ≤ 2147483648 then
            some ((all v6 ++ all v3, 0))
          else
            none
noncomputable def fn_affiantref22_area : Fn := ⟨141, [.v (.lst true 1), .v (.lst true 3), .v (.int .i64)], .pure (.tup [.t (.own 5), .t (.v (.int .i64))]) 3, F_affiantref22_area⟩
theorem t_affiantref22_area : GoodAt Try.prog HH HSP 3 fn_affiantref22_area := goodAt_of (ho := HO) (l := [fn_affiantref21_Emit, fn_affiantref22_width, fn_affiantref01_Put]) rfl (hl1 (t_affiantref21_Emit.up (by decide)) (hl1 (t_affiantref22_width.up (by decide)) (hl1 (t_affiantref01_Put.up (by decide)) hl0))) fun x => by kernel_rfl

noncomputable def F_affiantref04_trim : Ps [.v (.lst false 1)] → Option (Rc.I (.pure (.one (.t (.v (.lst false 1)))) 1)) := fun (v0 : (List V)) =>
  loopO (σ := ((List V) × Int)) (R := (List V)) (fun (v1, v2) =>
    (if decide (v2 > 0) = true then
        if 0 ≤ w64 (v2 - 1) then
          (v1[Int.toNat (w64 (v2 - 1))]?).bind fun v3 =>
          (V.int? .u64 v3).bind fun v4 =>
            some (v4 == 0)
        else
          none
      else
        some (false) : Option Bool).bind fun v5 =>
    if v5 = true then
        some (.inl ((v1, w64 (v2 - 1))))
      else
        (if 0 ≤ v2 then
            if 0 ≤ Int.toNat v2 ∧ Int.toNat v2 ≤ List.length v1 then
              some (List.take (Int.toNat v2) (List.drop 0 v1))
            else
              none
          else
            none : Option (List V)).bind fun v6 =>
        some (.inr (v6))) ((v0, len v0))
noncomputable def fn_affiantref04_trim : Fn := ⟨103, [.v (.lst false 1)], .pure (.one (.t (.v (.lst false 1)))) 1, F_affiantref04_trim⟩
theorem t_affiantref04_trim : GoodAt Try.prog HH HSP 1 fn_affiantref04_trim := goodAt_of (ho := HO) (l := []) rfl hl0 fun x => by kernel_rfl

noncomputable def F_affiantref04_Digits : Ps [.v (.lst true 1)] → Option (Rc.I (.pure (.one (.t (.v (.lst false 1)))) 1)) := fun (v0 : (List V)) =>
  loopO (σ := ((List V) × ((List V) × Int))) (R := (List V)) (fun (v1, v2, v3) =>
    if decide (v3 < len v1) = true then
      if 0 ≤ v3 then
        (v1[Int.toNat v3]?).bind fun v4 =>
        (V.int? .u32 v4).bind fun v5 =>
          if 0 ≤ v3 then
              (v1[Int.toNat v3]?).bind fun v6 =>
              (V.int? .u32 v6).bind fun v7 =>
                if List.length (all v2) + 2 ≤ 2147483648 then
                    some (.inl ((v1, all v2 ++ [V.int .u64 (wu64 (Int.tmod v5 65536)), V.int .u64 (wu64 (wu32 (Int.tdiv v7 65536)))], w64 (v3 + 1))))
                  else
                    none
            else
              none
      else
        none
    else
      ((F_affiantref04_trim (all v2)).bind fun (v8 : (List V)) =>
        some (v8) : Option (List V)).bind fun v9 =>
      some (.inr (v9))) ((v0, nilV, 0))
noncomputable def fn_affiantref04_Digits : Fn := ⟨67, [.v (.lst true 1)], .pure (.one (.t (.v (.lst false 1)))) 1, F_affiantref04_Digits⟩
theorem t_affiantref04_Digits : GoodAt Try.prog HH HSP 2 fn_affiantref04_Digits := goodAt_of (ho := HO) (l := [fn_affiantref04_trim]) rfl (hl1 (t_affiantref04_trim.up (by decide)) hl0) fun x => by kernel_rfl

noncomputable def F_affiantref04_Bits : Ps [.v (.lst true 1)] → Option (Rc.I (.pure (.one (.t (.v (.int .i64)))) 1)) := fun (v0 : (List V)) =>
  (F_affiantref04_Digits v0).bind fun (v1 : (List V)) =>
  if (len v1 == 0) = true then
      some (0)
    else
      if 0 ≤ w64 (len v1 - 1) then
        (v1[Int.toNat (w64 (len v1 - 1))]?).bind fun v2 =>
        (V.int? .u64 v2).bind fun v3 =>
          loopO (σ := (Int × Int)) (R := Int) (fun (v4, v5) =>
              if decide (v5 > 0) = true then
                some (.inl ((w64 (v4 + 1), wu64 (Int.tdiv v5 2))))
              else
                some (.inr (v4))) ((w64 (16 * w64 (len v1 - 1)), v3))
      else
        none
noncomputable def fn_affiantref04_Bits : Fn := ⟨87, [.v (.lst true 1)], .pure (.one (.t (.v (.int .i64)))) 1, F_affiantref04_Bits⟩
theorem t_affiantref04_Bits : GoodAt Try.prog HH HSP 3 fn_affiantref04_Bits := goodAt_of (ho := HO) (l := [fn_affiantref04_Digits]) rfl (hl1 (t_affiantref04_Digits.up (by decide)) hl0) fun x => by kernel_rfl

noncomputable def F_affiantref04_Whole : Ps [.v (.lst false 1)] → Option (Rc.I (.pure (.one (.t (.own 22))) 1)) := fun (v0 : (List V)) =>
  (F_affiantref04_trim v0).bind fun (v1 : (List V)) =>
  loopO (σ := ((List V) × ((List V) × Int))) (R := (List V)) (fun (v2, v3, v4) =>
      if decide (v4 < len v2) = true then
        if 0 ≤ v4 then
          (v2[Int.toNat v4]?).bind fun v5 =>
          (V.int? .u64 v5).bind fun v6 =>
            (if decide (w64 (v4 + 1) < len v2) = true then
                  if 0 ≤ w64 (v4 + 1) then
                    (v2[Int.toNat (w64 (v4 + 1))]?).bind fun v7 =>
                    (V.int? .u64 v7).bind fun v8 =>
                      some (.inl ((v2, v4, wu64 (v6 + wu64 (v8 * 65536)))))
                  else
                    none
                else
                  some (.inl ((v2, v4, v6))) : Option (((List V) × (Int × Int)) ⊕ (((List V) × ((List V) × Int)) ⊕ (List V)))).bind fun v9 =>
              match v9 with
                | .inl (v10, v11, v12) =>
                  if List.length (all v3) + 1 ≤ 2147483648 then
                    some (.inl ((v10, all v3 ++ [V.int .u32 (wu32 v12)], w64 (v11 + 2))))
                  else
                    none
                | .inr v13 =>
                  some (v13)
        else
          none
      else
        some (.inr (all v3))) ((v1, nilV, 0))
noncomputable def fn_affiantref04_Whole : Fn := ⟨194, [.v (.lst false 1)], .pure (.one (.t (.own 22))) 1, F_affiantref04_Whole⟩
theorem t_affiantref04_Whole : GoodAt Try.prog HH HSP 2 fn_affiantref04_Whole := goodAt_of (ho := HO) (l := [fn_affiantref04_trim]) rfl (hl1 (t_affiantref04_trim.up (by decide)) hl0) fun x => by kernel_rfl

noncomputable def F_affiantref04_Read : Ps [.v (.lst true 1)] → Option (Rc.I (.pure (.one (.t (.own 22))) 1)) := fun (v0 : (List V)) =>
  if 0 ≤ w64 (w64 (Int.tdiv (len v0) 2) + 1) ∧ w64 (w64 (Int.tdiv (len v0) 2) + 1) ≤ w64 (w64 (Int.tdiv (len v0) 2) + 1) ∧ w64 (w64 (Int.tdiv (len v0) 2) + 1) ≤ 2147483648 then
    loopO (σ := ((List V) × ((List V) × Int))) (R := (List V)) (fun (v1, v2, v3) =>
      if decide (v3 < len v1) = true then
        if 0 ≤ w64 (w64 (len v1 - 1) - v3) then
          (v1[Int.toNat (w64 (w64 (len v1 - 1) - v3))]?).bind fun v4 =>
          (V.int? .u8 v4).bind fun v5 =>
            (if (Int.tmod v3 2 == 1) = true then
                  some (.inl (wu64 (wu64 v5 * 256)))
                else
                  some (.inl (wu64 v5)) : Option (Int ⊕ (((List V) × ((List V) × Int)) ⊕ (List V)))).bind fun v6 =>
              match v6 with
                | .inl v7 =>
                  if 0 ≤ w64 (Int.tdiv v3 2) ∧ w64 (Int.tdiv v3 2) < len v2 then
                    (v2[0 + Int.toNat (w64 (Int.tdiv v3 2))]?).bind fun v8 =>
                    ((V.cells v8)[0]?).bind fun v9 =>
                      (V.int? .u64 v9).bind fun v10 =>
                        if 0 ≤ w64 (Int.tdiv v3 2) ∧ w64 (Int.tdiv v3 2) < len v2 then
                            (v2[0 + Int.toNat (w64 (Int.tdiv v3 2))]?).bind fun v11 =>
                            some (.inl ((v1, List.set v2 (0 + Int.toNat (w64 (Int.tdiv v3 2))) (storeEl v11 0 (V.cells (V.int .u64 (wu64 (v10 + v7))))), w64 (v3 + 1))))
                          else
                            none
                  else
                    none
                | .inr v12 =>
                  some (v12)
        else
          none
      else
        ((F_affiantref04_Whole (all v2)).bind fun (v13 : (List V)) =>
          some (v13) : Option (List V)).bind fun v14 =>
        some (.inr (v14))) ((v0, rep (Int.toNat (w64 (w64 (Int.tdiv (len v0) 2) + 1))) (V.int .u64 0), 0))
  else
    none
noncomputable def fn_affiantref04_Read : Fn := ⟨179, [.v (.lst true 1)], .pure (.one (.t (.own 22))) 1, F_affiantref04_Read⟩
theorem t_affiantref04_Read : GoodAt Try.prog HH HSP 3 fn_affiantref04_Read := goodAt_of (ho := HO) (l := [fn_affiantref04_Whole]) rfl (hl1 (t_affiantref04_Whole.up (by decide)) hl0) fun x => by kernel_rfl

noncomputable def F_affiantref22_SaltSize : Ps [.v (.int .i64)] → Option (Rc.I (.pure (.one (.t (.v (.int .i64)))) 1)) := fun (v0 : Int) =>
  (if (v0 == 11) = true then
      some (.inl ((v0, v0 == 11)))
    else
      some (.inl ((v0, v0 == 8))) : Option ((Int × Bool) ⊕ Int)).bind fun v1 =>
  match v1 with
    | .inl (v2, v3) =>
      if v3 = true then
        some (16)
      else
        if (v2 == 9) = true then
          some (24)
        else
          if (v2 == 10) = true then
            some (32)
          else
            some (0)
    | .inr v4 =>
      some (v4)
noncomputable def fn_affiantref22_SaltSize : Fn := ⟨178, [.v (.int .i64)], .pure (.one (.t (.v (.int .i64)))) 1, F_affiantref22_SaltSize⟩
theorem t_affiantref22_SaltSize : GoodAt Try.prog HH HSP 1 fn_affiantref22_SaltSize := goodAt_of (ho := HO) (l := []) rfl hl0 fun x => by kernel_rfl

noncomputable def F_affiantref09_Size : Ps [.v (.int .i64)] → Option (Rc.I (.pure (.one (.t (.v (.int .i64)))) 1)) := fun (v0 : Int) =>
  if (v0 == 2) = true then
    some (20)
  else
    if (v0 == 8) = true then
      some (32)
    else
      if (v0 == 9) = true then
        some (48)
      else
        if (v0 == 10) = true then
          some (64)
        else
          if (v0 == 11) = true then
            some (28)
          else
            some (0)
noncomputable def fn_affiantref09_Size : Fn := ⟨176, [.v (.int .i64)], .pure (.one (.t (.v (.int .i64)))) 1, F_affiantref09_Size⟩
theorem t_affiantref09_Size : GoodAt Try.prog HH HSP 1 fn_affiantref09_Size := goodAt_of (ho := HO) (l := []) rfl hl0 fun x => by kernel_rfl

noncomputable def F_affiantref09_Weak : Ps [.v (.int .i64)] → Option (Rc.I (.pure (.one (.t (.v .bool))) 1)) := fun (v0 : Int) =>
  (if (v0 == 2) = false then
      (F_affiantref09_Size v0).bind fun (v1 : Int) =>
      some (v1 == 0)
    else
      some (true) : Option Bool).bind fun v2 =>
  some (v2)
noncomputable def fn_affiantref09_Weak : Fn := ⟨177, [.v (.int .i64)], .pure (.one (.t (.v .bool))) 1, F_affiantref09_Weak⟩
theorem t_affiantref09_Weak : GoodAt Try.prog HH HSP 2 fn_affiantref09_Weak := goodAt_of (ho := HO) (l := [fn_affiantref09_Size]) rfl (hl1 (t_affiantref09_Size.up (by decide)) hl0) fun x => by kernel_rfl

noncomputable def F_affiantref22_may : Ps [.v (.st rapi_Sig)] → Option (Rc.I (.pure (.one (.t (.v .bool))) 1)) := fun ((v0, v1, v2, v3, v4, v5, v6, v7, v8, v9) : (Int × (Int × (Int × (Int × ((List V) × ((List V) × (Int × (Int × ((List V) × (List V))))))))))) =>
  (if (v0 != 4) = true then
      if (v0 != 6) = false then
        if decide (v1 < 0) = false then
          if decide (v1 > 255) = false then
            if (v2 != 1) = true then
              if (v2 != 27) = false then
                (F_affiantref09_Size v3).bind fun (v10 : Int) =>
                if (v10 == 0) = false then
                    if (v0 == 6) = true then
                      (F_affiantref09_Weak v3).bind fun (v11 : Bool) =>
                      some (v11)
                    else
                      some (false)
                  else
                    some (true)
              else
                some (true)
            else
              (F_affiantref09_Size v3).bind fun (v12 : Int) =>
              if (v12 == 0) = false then
                  if (v0 == 6) = true then
                    (F_affiantref09_Weak v3).bind fun (v13 : Bool) =>
                    some (v13)
                  else
                    some (false)
                else
                  some (true)
          else
            some (true)
        else
          some (true)
      else
        some (true)
    else
      if decide (v1 < 0) = false then
        if decide (v1 > 255) = false then
          if (v2 != 1) = true then
            if (v2 != 27) = false then
              (F_affiantref09_Size v3).bind fun (v14 : Int) =>
              if (v14 == 0) = false then
                  if (v0 == 6) = true then
                    (F_affiantref09_Weak v3).bind fun (v15 : Bool) =>
                    some (v15)
                  else
                    some (false)
                else
                  some (true)
            else
              some (true)
          else
            (F_affiantref09_Size v3).bind fun (v16 : Int) =>
            if (v16 == 0) = false then
                if (v0 == 6) = true then
                  (F_affiantref09_Weak v3).bind fun (v17 : Bool) =>
                  some (v17)
                else
                  some (false)
              else
                some (true)
        else
          some (true)
      else
        some (true) : Option Bool).bind fun v18 =>
  if v18 = true then
      some (false)
    else
      (if (v0 == 4) = true then
          if decide (len v8 > 0) = false then
            if (v0 == 6) = true then
              (F_affiantref22_SaltSize v3).bind fun (v19 : Int) =>
              some (len v8 != v19)
            else
              some (false)
          else
            some (true)
        else
          if (v0 == 6) = true then
            (F_affiantref22_SaltSize v3).bind fun (v20 : Int) =>
            some (len v8 != v20)
          else
            some (false) : Option Bool).bind fun v21 =>
      if v21 = true then
          some (false)
        else
          if (v2 == 27) = true then
            some (len v9 == 64)
          else
            (if (len v9 == 0) = false then
                (v9[0]?).bind fun v22 =>
                (V.int? .u8 v22).bind fun v23 =>
                  if (v23 != 0) = true then
                      (F_affiantref04_Read v9).bind fun (v24 : (List V)) =>
                      (F_affiantref04_Bits (all v24)).bind fun (v25 : Int) =>
                        some (decide (v25 ≤ 16384))
                    else
                      some (false)
              else
                (F_affiantref04_Read v9).bind fun (v26 : (List V)) =>
                (F_affiantref04_Bits (all v26)).bind fun (v27 : Int) =>
                  some (decide (v27 ≤ 16384)) : Option Bool).bind fun v28 =>
            some (v28)
noncomputable def fn_affiantref22_may : Fn := ⟨140, [.v (.st rapi_Sig)], .pure (.one (.t (.v .bool))) 1, F_affiantref22_may⟩
theorem t_affiantref22_may : GoodAt Try.prog HH HSP 4 fn_affiantref22_may := goodAt_of (ho := HO) (l := [fn_affiantref09_Size, fn_affiantref09_Weak, fn_affiantref22_SaltSize, fn_affiantref04_Read, fn_affiantref04_Bits]) rfl (hl1 (t_affiantref09_Size.up (by decide)) (hl1 (t_affiantref09_Weak.up (by decide)) (hl1 (t_affiantref22_SaltSize.up (by decide)) (hl1 (t_affiantref04_Read.up (by decide)) (hl1 (t_affiantref04_Bits.up (by decide)) hl0))))) fun x => by kernel_rfl

noncomputable def F_affiantref22_Hashed : Ps [.v (.st rapi_Sig)] → Option (Rc.I (.pure (.tup [.t (.own 5), .t (.v (.int .i64))]) 1)) := fun ((v0, v1, v2, v3, v4, v5, v6, v7, v8, v9) : (Int × (Int × (Int × (Int × ((List V) × ((List V) × (Int × (Int × ((List V) × (List V))))))))))) =>
  (F_affiantref21_Emit v4).bind fun ((v10, v11) : ((List V) × Int)) =>
  (F_affiantref21_Emit v5).bind fun ((v12, v13) : ((List V) × Int)) =>
    ((F_affiantref22_may (v0, v1, v2, v3, v4, v5, v6, v7, v8, v9)).bind fun (v14 : Bool) =>
        if (!v14) = false then
            if (v11 == 1) = false then
              some (v13 == 1)
            else
              some (true)
          else
            some (true) : Option Bool).bind fun v15 =>
      if v15 = true then
          some ((nilV, 1))
        else
          (if (v11 != 0) = false then
              some (v13 != 0)
            else
              some (true) : Option Bool).bind fun v16 =>
          if v16 = true then
              some ((nilV, 4))
            else
              (F_affiantref22_area ([V.int .u8 (wu8 v0), V.int .u8 (wu8 v1), V.int .u8 (wu8 v2), V.int .u8 (wu8 v3)], v4, v0)).bind fun ((v17, v18) : ((List V) × Int)) =>
              some ((v17, v18))
noncomputable def fn_affiantref22_Hashed : Fn := ⟨106, [.v (.st rapi_Sig)], .pure (.tup [.t (.own 5), .t (.v (.int .i64))]) 1, F_affiantref22_Hashed⟩
theorem t_affiantref22_Hashed : GoodAt Try.prog HH HSP 5 fn_affiantref22_Hashed := goodAt_of (ho := HO) (l := [fn_affiantref21_Emit, fn_affiantref22_may, fn_affiantref22_area]) rfl (hl1 (t_affiantref21_Emit.up (by decide)) (hl1 (t_affiantref22_may.up (by decide)) (hl1 (t_affiantref22_area.up (by decide)) hl0))) fun x => by kernel_rfl

noncomputable def F_affiantref25_Trailer : Ps [.v (.st rapi_Sig)] → Option (Rc.I (.pure (.tup [.t (.own 5), .t (.v (.int .i64))]) 1)) := fun ((v0, v1, v2, v3, v4, v5, v6, v7, v8, v9) : (Int × (Int × (Int × (Int × ((List V) × ((List V) × (Int × (Int × ((List V) × (List V))))))))))) =>
  (F_affiantref22_Hashed (v0, v1, v2, v3, v4, v5, v6, v7, v8, v9)).bind fun ((v10, v11) : ((List V) × Int)) =>
  if (v11 != 0) = true then
      some ((nilV, 1))
    else
      if List.length (all v10) + 2 ≤ 2147483648 then
        (F_affiantref01_Put (all (all v10 ++ [V.int .u8 (wu8 v0), V.int .u8 255]), wu64 (len v10), 4)).bind fun ((v12, v13) : ((List V) × Int)) =>
        some ((v12, v13))
      else
        none
noncomputable def fn_affiantref25_Trailer : Fn := ⟨69, [.v (.st rapi_Sig)], .pure (.tup [.t (.own 5), .t (.v (.int .i64))]) 1, F_affiantref25_Trailer⟩
theorem t_affiantref25_Trailer : GoodAt Try.prog HH HSP 6 fn_affiantref25_Trailer := goodAt_of (ho := HO) (l := [fn_affiantref22_Hashed, fn_affiantref01_Put]) rfl (hl1 (t_affiantref22_Hashed.up (by decide)) (hl1 (t_affiantref01_Put.up (by decide)) hl0)) fun x => by kernel_rfl

noncomputable def F_affiantref25_around : Ps [.v (.st rapi_Sig), .v (.lst true 1)] → Option (Rc.I (.pure (.tup [.t (.own 5), .t (.v (.int .i64))]) 2)) := fun (((v0, v1, v2, v3, v4, v5, v6, v7, v8, v9), v10) : ((Int × (Int × (Int × (Int × ((List V) × ((List V) × (Int × (Int × ((List V) × (List V)))))))))) × (List V))) =>
  (F_affiantref25_Trailer (v0, v1, v2, v3, v4, v5, v6, v7, v8, v9)).bind fun ((v11, v12) : ((List V) × Int)) =>
  if (v12 != 0) = true then
      some ((nilV, v12))
    else
      if 0 + List.length v8 ≤ 2147483648 then
        if List.length (all v8) + List.length v10 ≤ 2147483648 then
          if List.length (all (all v8 ++ v10)) + List.length (all v11) ≤ 2147483648 then
            some ((all (all v8 ++ v10) ++ all v11, 0))
          else
            none
        else
          none
      else
        none
noncomputable def fn_affiantref25_around : Fn := ⟨47, [.v (.st rapi_Sig), .v (.lst true 1)], .pure (.tup [.t (.own 5), .t (.v (.int .i64))]) 2, F_affiantref25_around⟩
theorem t_affiantref25_around : GoodAt Try.prog HH HSP 7 fn_affiantref25_around := goodAt_of (ho := HO) (l := [fn_affiantref25_Trailer]) rfl (hl1 (t_affiantref25_Trailer.up (by decide)) hl0) fun x => by kernel_rfl

noncomputable def F_affiantref04_digit : Ps [.v (.lst true 1), .v (.int .i64)] → Option (Rc.I (.pure (.one (.t (.v (.int .u64)))) 2)) := fun ((v0, v1) : ((List V) × Int)) =>
  if decide (v1 < len v0) = true then
    if 0 ≤ v1 then
      (v0[Int.toNat v1]?).bind fun v2 =>
      (V.int? .u64 v2).bind fun v3 =>
        some (v3)
    else
      none
  else
    some (0)
noncomputable def fn_affiantref04_digit : Fn := ⟨102, [.v (.lst true 1), .v (.int .i64)], .pure (.one (.t (.v (.int .u64)))) 2, F_affiantref04_digit⟩
theorem t_affiantref04_digit : GoodAt Try.prog HH HSP 1 fn_affiantref04_digit := goodAt_of (ho := HO) (l := []) rfl hl0 fun x => by kernel_rfl

noncomputable def F_affiantref04_fill : Ps [.v (.lst true 1), .v (.int .i64)] → Option (Rc.I (.pure (.one (.t (.own 5))) 2)) := fun ((v0, v1) : ((List V) × Int)) =>
  if 0 ≤ v1 ∧ v1 ≤ v1 ∧ v1 ≤ 2147483648 then
    loopO (σ := ((List V) × (Int × ((List V) × Int)))) (R := (List V)) (fun (v2, v3, v4, v5) =>
      if decide (v5 < v3) = true then
        (F_affiantref04_digit (v2, w64 (Int.tdiv v5 2))).bind fun (v6 : Int) =>
        (if (Int.tmod v5 2 == 1) = true then
              some (.inl (wu64 (Int.tdiv v6 256)))
            else
              some (.inl (v6)) : Option (Int ⊕ (((List V) × (Int × ((List V) × Int))) ⊕ (List V)))).bind fun v7 =>
          match v7 with
            | .inl v8 =>
              if 0 ≤ w64 (w64 (v3 - 1) - v5) ∧ w64 (w64 (v3 - 1) - v5) < len v4 then
                (v4[0 + Int.toNat (w64 (w64 (v3 - 1) - v5))]?).bind fun v9 =>
                some (.inl ((v2, v3, List.set v4 (0 + Int.toNat (w64 (w64 (v3 - 1) - v5))) (storeEl v9 0 (V.cells (V.int .u8 (wu8 v8)))), w64 (v5 + 1))))
              else
                none
            | .inr v10 =>
              some (v10)
      else
        some (.inr (all v4))) ((v0, v1, rep (Int.toNat v1) (V.int .u8 0), 0))
  else
    none
noncomputable def fn_affiantref04_fill : Fn := ⟨183, [.v (.lst true 1), .v (.int .i64)], .pure (.one (.t (.own 5))) 2, F_affiantref04_fill⟩
theorem t_affiantref04_fill : GoodAt Try.prog HH HSP 2 fn_affiantref04_fill := goodAt_of (ho := HO) (l := [fn_affiantref04_digit]) rfl (hl1 (t_affiantref04_digit.up (by decide)) hl0) fun x => by kernel_rfl

noncomputable def F_affiantref04_Bytes : Ps [.v (.lst true 1)] → Option (Rc.I (.pure (.one (.t (.own 5))) 1)) := fun (v0 : (List V)) =>
  (F_affiantref04_Digits v0).bind fun (v1 : (List V)) =>
  (F_affiantref04_Bits v0).bind fun (v2 : Int) =>
    (F_affiantref04_fill (v1, w64 (Int.tdiv (w64 (v2 + 7)) 8))).bind fun (v3 : (List V)) =>
      some (v3)
noncomputable def fn_affiantref04_Bytes : Fn := ⟨150, [.v (.lst true 1)], .pure (.one (.t (.own 5))) 1, F_affiantref04_Bytes⟩
theorem t_affiantref04_Bytes : GoodAt Try.prog HH HSP 4 fn_affiantref04_Bytes := goodAt_of (ho := HO) (l := [fn_affiantref04_Digits, fn_affiantref04_Bits, fn_affiantref04_fill]) rfl (hl1 (t_affiantref04_Digits.up (by decide)) (hl1 (t_affiantref04_Bits.up (by decide)) (hl1 (t_affiantref04_fill.up (by decide)) hl0))) fun x => by kernel_rfl

noncomputable def F_affiantref20_Put : Ps [.v (.lst true 1), .v (.lst true 1)] → Option (Rc.I (.pure (.tup [.t (.own 5), .t (.v (.int .i64))]) 2)) := fun ((v0, v1) : ((List V) × (List V))) =>
  (F_affiantref04_Bits v1).bind fun (v2 : Int) =>
  if decide (v2 > 16384) = true then
      some ((nilV, 4))
    else
      (F_affiantref01_Put (v0, wu64 v2, 2)).bind fun ((v3, v4) : ((List V) × Int)) =>
      (F_affiantref04_Bytes v1).bind fun (v5 : (List V)) =>
        if List.length (all v3) + List.length (all v5) ≤ 2147483648 then
            some ((all v3 ++ all v5, 0))
          else
            none
noncomputable def fn_affiantref20_Put : Fn := ⟨121, [.v (.lst true 1), .v (.lst true 1)], .pure (.tup [.t (.own 5), .t (.v (.int .i64))]) 2, F_affiantref20_Put⟩
theorem t_affiantref20_Put : GoodAt Try.prog HH HSP 5 fn_affiantref20_Put := goodAt_of (ho := HO) (l := [fn_affiantref04_Bits, fn_affiantref01_Put, fn_affiantref04_Bytes]) rfl (hl1 (t_affiantref04_Bits.up (by decide)) (hl1 (t_affiantref01_Put.up (by decide)) (hl1 (t_affiantref04_Bytes.up (by decide)) hl0))) fun x => by kernel_rfl

noncomputable def F_affiantref23_material : Ps [.v (.st rapi_Key)] → Option (Rc.I (.pure (.one (.t (.v (.lst false 1)))) 1)) := fun ((v0, v1, v2, v3, v4, v5) : (Int × (Int × (Int × ((List V) × ((List V) × (List Int))))))) =>
  if (v2 == 27) = true then
    some (List.take 32 (List.drop 5 (V.int .i64 v0 :: V.int .u32 v1 :: V.int .i64 v2 :: V.sl false false 1 v3 :: V.sl false false 1 v4 :: arrV .u8 v5 0 32)))
  else
    (F_affiantref20_Put (nilV, v3)).bind fun ((v6, v7) : ((List V) × Int)) =>
    (F_affiantref20_Put (all v6, v4)).bind fun ((v8, v9) : ((List V) × Int)) =>
      some (all v8)
noncomputable def fn_affiantref23_material : Fn := ⟨86, [.v (.st rapi_Key)], .pure (.one (.t (.v (.lst false 1)))) 1, F_affiantref23_material⟩
theorem t_affiantref23_material : GoodAt Try.prog HH HSP 6 fn_affiantref23_material := goodAt_of (ho := HO) (l := [fn_affiantref20_Put]) rfl (hl1 (t_affiantref20_Put.up (by decide)) hl0) fun x => by kernel_rfl

noncomputable def F_affiantref23_may : Ps [.v (.st rapi_Key)] → Option (Rc.I (.pure (.one (.t (.v .bool))) 1)) := fun ((v0, v1, v2, v3, v4, v5) : (Int × (Int × (Int × ((List V) × ((List V) × (List Int))))))) =>
  (if (v0 != 4) = true then
      some (v0 != 6)
    else
      some (false) : Option Bool).bind fun v6 =>
  if v6 = true then
      some (false)
    else
      if (v2 == 27) = true then
        (if (len v3 == 0) = true then
            some (len v4 == 0)
          else
            some (false) : Option Bool).bind fun v7 =>
        some (v7)
      else
        (if (v2 == 1) = true then
            if (fitI (fitI v5 0 32) 0 32 == rep 32 0) = true then
              (F_affiantref04_Bits v3).bind fun (v8 : Int) =>
              if decide (v8 ≤ 16384) = true then
                  (F_affiantref04_Bits v4).bind fun (v9 : Int) =>
                  some (decide (v9 ≤ 16384))
                else
                  some (false)
            else
              some (false)
          else
            some (false) : Option Bool).bind fun v10 =>
        some (v10)
noncomputable def fn_affiantref23_may : Fn := ⟨85, [.v (.st rapi_Key)], .pure (.one (.t (.v .bool))) 1, F_affiantref23_may⟩
theorem t_affiantref23_may : GoodAt Try.prog HH HSP 4 fn_affiantref23_may := goodAt_of (ho := HO) (l := [fn_affiantref04_Bits]) rfl (hl1 (t_affiantref04_Bits.up (by decide)) hl0) fun x => by kernel_rfl

noncomputable def F_affiantref23_Emit : Ps [.v (.st rapi_Key)] → Option (Rc.I (.pure (.tup [.t (.own 5), .t (.v (.int .i64))]) 1)) := fun ((v0, v1, v2, v3, v4, v5) : (Int × (Int × (Int × ((List V) × ((List V) × (List Int))))))) =>
  (F_affiantref23_may (v0, v1, v2, v3, v4, fitI v5 0 32)).bind fun (v6 : Bool) =>
  if (!v6) = true then
      some ((nilV, 1))
    else
      (F_affiantref01_Put ([V.int .u8 (wu8 v0)], wu64 v1, 4)).bind fun ((v7, v8) : ((List V) × Int)) =>
      if List.length (all v7) + 1 ≤ 2147483648 then
          (F_affiantref23_material (v0, v1, v2, v3, v4, fitI v5 0 32)).bind fun (v9 : (List V)) =>
          (if (v0 == 6) = true then
                (F_affiantref01_Put (all (all v7 ++ [V.int .u8 (wu8 v2)]), wu64 (len v9), 4)).bind fun ((v10, v11) : ((List V) × Int)) =>
                some (.inl ((v10, v9)))
              else
                some (.inl ((all v7 ++ [V.int .u8 (wu8 v2)], v9))) : Option (((List V) × (List V)) ⊕ ((List V) × Int))).bind fun v12 =>
            match v12 with
              | .inl (v13, v14) =>
                if List.length (all v13) + List.length v14 ≤ 2147483648 then
                  some ((all v13 ++ v14, 0))
                else
                  none
              | .inr (v15, v16) =>
                some ((v15, v16))
        else
          none
noncomputable def fn_affiantref23_Emit : Fn := ⟨56, [.v (.st rapi_Key)], .pure (.tup [.t (.own 5), .t (.v (.int .i64))]) 1, F_affiantref23_Emit⟩
theorem t_affiantref23_Emit : GoodAt Try.prog HH HSP 7 fn_affiantref23_Emit := goodAt_of (ho := HO) (l := [fn_affiantref23_may, fn_affiantref01_Put, fn_affiantref23_material]) rfl (hl1 (t_affiantref23_may.up (by decide)) (hl1 (t_affiantref01_Put.up (by decide)) (hl1 (t_affiantref23_material.up (by decide)) hl0))) fun x => by kernel_rfl

noncomputable def F_affiantref23_Image : Ps [.v (.st rapi_Key)] → Option (Rc.I (.pure (.tup [.t (.own 5), .t (.v (.int .i64))]) 1)) := fun ((v0, v1, v2, v3, v4, v5) : (Int × (Int × (Int × ((List V) × ((List V) × (List Int))))))) =>
  (F_affiantref23_Emit (v0, v1, v2, v3, v4, fitI v5 0 32)).bind fun ((v6, v7) : ((List V) × Int)) =>
  if (v7 != 0) = true then
      some ((nilV, v7))
    else
      (if (v0 == 6) = true then
          some (.inl ((155, 4)))
        else
          some (.inl ((153, 2))) : Option ((Int × Int) ⊕ ((List V) × Int))).bind fun v8 =>
      match v8 with
        | .inl (v9, v10) =>
          (F_affiantref01_Put ([V.int .u8 v9], wu64 (len v6), v10)).bind fun ((v11, v12) : ((List V) × Int)) =>
          if List.length (all v11) + List.length (all v6) ≤ 2147483648 then
              some ((all v11 ++ all v6, 0))
            else
              none
        | .inr (v13, v14) =>
          some ((v13, v14))
noncomputable def fn_affiantref23_Image : Fn := ⟨46, [.v (.st rapi_Key)], .pure (.tup [.t (.own 5), .t (.v (.int .i64))]) 1, F_affiantref23_Image⟩
theorem t_affiantref23_Image : GoodAt Try.prog HH HSP 8 fn_affiantref23_Image := goodAt_of (ho := HO) (l := [fn_affiantref23_Emit, fn_affiantref01_Put]) rfl (hl1 (t_affiantref23_Emit.up (by decide)) (hl1 (t_affiantref01_Put.up (by decide)) hl0)) fun x => by kernel_rfl

noncomputable def F_affiantref25_OfSubkey : Ps [.v (.st rapi_Sig), .v (.st rapi_Key), .v (.st rapi_Key)] → Option (Rc.I (.pure (.tup [.t (.own 5), .t (.v (.int .i64))]) 3)) := fun (((v0, v1, v2, v3, v4, v5, v6, v7, v8, v9), (v10, v11, v12, v13, v14, v15), v16, v17, v18, v19, v20, v21) : ((Int × (Int × (Int × (Int × ((List V) × ((List V) × (Int × (Int × ((List V) × (List V)))))))))) × ((Int × (Int × (Int × ((List V) × ((List V) × (List Int)))))) × (Int × (Int × (Int × ((List V) × ((List V) × (List Int))))))))) =>
  (F_affiantref23_Image (v10, v11, v12, v13, v14, fitI v15 0 32)).bind fun ((v22, v23) : ((List V) × Int)) =>
  (F_affiantref23_Image (v16, v17, v18, v19, v20, fitI v21 0 32)).bind fun ((v24, v25) : ((List V) × Int)) =>
    (if (v23 != 0) = false then
          some (v25 != 0)
        else
          some (true) : Option Bool).bind fun v26 =>
      if v26 = true then
          some ((nilV, 1))
        else
          if List.length (all v22) + List.length (all v24) ≤ 2147483648 then
            (F_affiantref25_around ((v0, v1, v2, v3, v4, v5, v6, v7, v8, v9), all (all v22 ++ all v24))).bind fun ((v27, v28) : ((List V) × Int)) =>
            some ((v27, v28))
          else
            none
noncomputable def fn_affiantref25_OfSubkey : Fn := ⟨22, [.v (.st rapi_Sig), .v (.st rapi_Key), .v (.st rapi_Key)], .pure (.tup [.t (.own 5), .t (.v (.int .i64))]) 3, F_affiantref25_OfSubkey⟩
theorem t_affiantref25_OfSubkey : GoodAt Try.prog HH HSP 9 fn_affiantref25_OfSubkey := goodAt_of (ho := HO) (l := [fn_affiantref23_Image, fn_affiantref25_around]) rfl (hl1 (t_affiantref23_Image.up (by decide)) (hl1 (t_affiantref25_around.up (by decide)) hl0)) fun x => by kernel_rfl

noncomputable def F_key_put : Ps [.v (.lst true 1), .v (.int .i64), .v (.int .i64)] → Option (Rc.I (.pure (.one (.t (.own 5))) 3)) := fun ((v0, v1, v2) : ((List V) × (Int × Int))) =>
  (F_cursor_Put (v0, wu64 v1, v2)).bind fun ((v3, v4) : ((List V) × Int)) =>
  some (all v3)
noncomputable def fn_key_put : Fn := ⟨35, [.v (.lst true 1), .v (.int .i64), .v (.int .i64)], .pure (.one (.t (.own 5))) 3, F_key_put⟩
theorem t_key_put : GoodAt Try.prog HH HSP 2 fn_key_put := goodAt_of (ho := HO) (l := [fn_cursor_Put]) rfl (hl1 (t_cursor_Put.up (by decide)) hl0) fun x => by kernel_rfl

noncomputable def F_mpi_Put : Ps [.v (.lst false 1), .v (.lst false 1)] → Option (Rc.I (.pure (.tup [.t (.own 5), .t (.v (.int .i64))]) 2)) := fun ((v0, v1) : ((List V) × (List V))) =>
  (F_nat_Bits v1).bind fun (v2 : Int) =>
  if decide (v2 > 16384) = true then
      some ((nilV, 4))
    else
      (F_cursor_Put (v0, wu64 v2, 2)).bind fun ((v3, v4) : ((List V) × Int)) =>
      (F_nat_Bytes v1).bind fun (v5 : (List V)) =>
        if List.length (all v3) + List.length (all v5) ≤ 2147483648 then
            some ((all v3 ++ all v5, v4))
          else
            none
noncomputable def fn_mpi_Put : Fn := ⟨61, [.v (.lst false 1), .v (.lst false 1)], .pure (.tup [.t (.own 5), .t (.v (.int .i64))]) 2, F_mpi_Put⟩
theorem t_mpi_Put : GoodAt Try.prog HH HSP 5 fn_mpi_Put := goodAt_of (ho := HO) (l := [fn_nat_Bits, fn_cursor_Put, fn_nat_Bytes]) rfl (hl1 (t_nat_Bits.up (by decide)) (hl1 (t_cursor_Put.up (by decide)) (hl1 (t_nat_Bytes.up (by decide)) hl0))) fun x => by kernel_rfl

noncomputable def F_key_material : Ps [.v (.st rapi_Key)] → Option (Rc.I (.pure (.one (.t (.own 5))) 1)) := fun ((v0, v1, v2, v3, v4, v5) : (Int × (Int × (Int × ((List V) × ((List V) × (List Int))))))) =>
  if (v2 == 27) = true then
    some (arrV .u8 v5 0 32)
  else
    (F_mpi_Put (nilV, v3)).bind fun ((v6, v7) : ((List V) × Int)) =>
    (F_mpi_Put (all v6, v4)).bind fun ((v8, v9) : ((List V) × Int)) =>
      some (all v8)
noncomputable def fn_key_material : Fn := ⟨34, [.v (.st rapi_Key)], .pure (.one (.t (.own 5))) 1, F_key_material⟩
theorem t_key_material : GoodAt Try.prog HH HSP 6 fn_key_material := goodAt_of (ho := HO) (l := [fn_bytes_Clone, fn_mpi_Put]) rfl (hl1 (t_bytes_Clone.up (by decide)) (hl1 (t_mpi_Put.up (by decide)) hl0)) fun x => by kernel_rfl

noncomputable def F_key_isShort : Ps [.v (.lst false 1)] → Option (Rc.I (.pure (.one (.t (.v .bool))) 1)) := fun (v0 : (List V)) =>
  (F_nat_Bits v0).bind fun (v1 : Int) =>
  some (decide (v1 ≤ 16384))
noncomputable def fn_key_isShort : Fn := ⟨60, [.v (.lst false 1)], .pure (.one (.t (.v .bool))) 1, F_key_isShort⟩
theorem t_key_isShort : GoodAt Try.prog HH HSP 3 fn_key_isShort := goodAt_of (ho := HO) (l := [fn_nat_Bits]) rfl (hl1 (t_nat_Bits.up (by decide)) hl0) fun x => by kernel_rfl

noncomputable def F_key_may : Ps [.v (.st rapi_Key)] → Option (Rc.I (.pure (.one (.t (.v .bool))) 1)) := fun ((v0, v1, v2, v3, v4, v5) : (Int × (Int × (Int × ((List V) × ((List V) × (List Int))))))) =>
  (if (v0 != 4) = true then
      some (v0 != 6)
    else
      some (false) : Option Bool).bind fun v6 =>
  if v6 = true then
      some (false)
    else
      if (v2 == 1) = true then
        (if (fitI (fitI v5 0 32) 0 32 == rep 32 0) = true then
            (F_key_isShort v3).bind fun (v7 : Bool) =>
            if v7 = true then
                (F_key_isShort v4).bind fun (v8 : Bool) =>
                some (v8)
              else
                some (false)
          else
            some (false) : Option Bool).bind fun v9 =>
        some (v9)
      else
        if (v2 == 27) = true then
          (if (len v3 == 0) = true then
              some (len v4 == 0)
            else
              some (false) : Option Bool).bind fun v10 =>
          some (v10)
        else
          some (false)
noncomputable def fn_key_may : Fn := ⟨33, [.v (.st rapi_Key)], .pure (.one (.t (.v .bool))) 1, F_key_may⟩
theorem t_key_may : GoodAt Try.prog HH HSP 4 fn_key_may := goodAt_of (ho := HO) (l := [fn_key_isShort]) rfl (hl1 (t_key_isShort.up (by decide)) hl0) fun x => by kernel_rfl

noncomputable def F_key_Emit : Ps [.v (.st rapi_Key)] → Option (Rc.I (.pure (.tup [.t (.own 5), .t (.v (.int .i64))]) 1)) := fun ((v0, v1, v2, v3, v4, v5) : (Int × (Int × (Int × ((List V) × ((List V) × (List Int))))))) =>
  (F_key_may (v0, v1, v2, v3, v4, fitI v5 0 32)).bind fun (v6 : Bool) =>
  if (!v6) = true then
      some ((nilV, 1))
    else
      (F_key_material (v0, v1, v2, v3, v4, fitI v5 0 32)).bind fun (v7 : (List V)) =>
      (F_key_put ([V.int .u8 (wu8 v0)], w64 v1, 4)).bind fun (v8 : (List V)) =>
        if List.length v8 + 1 ≤ 2147483648 then
            (if (v0 == 6) = true then
                (F_key_put (all (v8 ++ [V.int .u8 (wu8 v2)]), len v7, 4)).bind fun (v9 : (List V)) =>
                some (.inl ((v7, v9)))
              else
                some (.inl ((v7, v8 ++ [V.int .u8 (wu8 v2)]))) : Option (((List V) × (List V)) ⊕ ((List V) × Int))).bind fun v10 =>
            match v10 with
              | .inl (v11, v12) =>
                if List.length (all v12) + List.length (all v11) ≤ 2147483648 then
                  some ((all v12 ++ all v11, 0))
                else
                  none
              | .inr (v13, v14) =>
                some ((v13, v14))
          else
            none
noncomputable def fn_key_Emit : Fn := ⟨11, [.v (.st rapi_Key)], .pure (.tup [.t (.own 5), .t (.v (.int .i64))]) 1, F_key_Emit⟩
theorem t_key_Emit : GoodAt Try.prog HH HSP 7 fn_key_Emit := goodAt_of (ho := HO) (l := [fn_key_may, fn_key_material, fn_key_put]) rfl (hl1 (t_key_may.up (by decide)) (hl1 (t_key_material.up (by decide)) (hl1 (t_key_put.up (by decide)) hl0))) fun x => by kernel_rfl

noncomputable def F_key_Image : Ps [.v (.st rapi_Key)] → Option (Rc.I (.pure (.tup [.t (.own 5), .t (.v (.int .i64))]) 1)) := fun ((v0, v1, v2, v3, v4, v5) : (Int × (Int × (Int × ((List V) × ((List V) × (List Int))))))) =>
  (F_key_Emit (v0, v1, v2, v3, v4, fitI v5 0 32)).bind fun ((v6, v7) : ((List V) × Int)) =>
  if (v7 != 0) = true then
      some ((nilV, v7))
    else
      if (v0 == 6) = true then
        (F_key_put ([V.int .u8 155], len v6, 4)).bind fun (v8 : (List V)) =>
        if List.length v8 + List.length (all v6) ≤ 2147483648 then
            some ((v8 ++ all v6, 0))
          else
            none
      else
        (F_key_put ([V.int .u8 153], len v6, 2)).bind fun (v9 : (List V)) =>
        if List.length v9 + List.length (all v6) ≤ 2147483648 then
            some ((v9 ++ all v6, 0))
          else
            none
noncomputable def fn_key_Image : Fn := ⟨32, [.v (.st rapi_Key)], .pure (.tup [.t (.own 5), .t (.v (.int .i64))]) 1, F_key_Image⟩
theorem t_key_Image : GoodAt Try.prog HH HSP 8 fn_key_Image := goodAt_of (ho := HO) (l := [fn_key_Emit, fn_key_put]) rfl (hl1 (t_key_Emit.up (by decide)) (hl1 (t_key_put.up (by decide)) hl0)) fun x => by kernel_rfl

noncomputable def F_image_OfSubkey : Ps [.v (.st rapi_Sig), .v (.st rapi_Key), .v (.st rapi_Key)] → Option (Rc.I (.pure (.tup [.t (.v (.lst false 1)), .t (.v (.int .i64))]) 3)) := fun (((v0, v1, v2, v3, v4, v5, v6, v7, v8, v9), (v10, v11, v12, v13, v14, v15), v16, v17, v18, v19, v20, v21) : ((Int × (Int × (Int × (Int × ((List V) × ((List V) × (Int × (Int × ((List V) × (List V)))))))))) × ((Int × (Int × (Int × ((List V) × ((List V) × (List Int)))))) × (Int × (Int × (Int × ((List V) × ((List V) × (List Int))))))))) =>
  (F_key_Image (v10, v11, v12, v13, v14, fitI v15 0 32)).bind fun ((v22, v23) : ((List V) × Int)) =>
  (F_key_Image (v16, v17, v18, v19, v20, fitI v21 0 32)).bind fun ((v24, v25) : ((List V) × Int)) =>
    (if (v23 != 0) = false then
          some (v25 != 0)
        else
          some (true) : Option Bool).bind fun v26 =>
      if v26 = true then
          some ((nilV, 1))
        else
          (F_image_around ((v0, v1, v2, v3, v4, v5, v6, v7, v8, v9), [V.sl false false 1 (all v22), V.sl false false 1 (all v24)])).bind fun ((v27, v28) : ((List V) × Int)) =>
          some ((v27, v28))
noncomputable def fn_image_OfSubkey : Fn := ⟨21, [.v (.st rapi_Sig), .v (.st rapi_Key), .v (.st rapi_Key)], .pure (.tup [.t (.v (.lst false 1)), .t (.v (.int .i64))]) 3, F_image_OfSubkey⟩
theorem t_image_OfSubkey : GoodAt Try.prog HH HSP 11 fn_image_OfSubkey := goodAt_of (ho := HO) (l := [fn_key_Image, fn_image_around]) rfl (hl1 (t_key_Image.up (by decide)) (hl1 (t_image_around.up (by decide)) hl0)) fun x => by kernel_rfl

noncomputable def F_affiantref25_OfUser : Ps [.v (.st rapi_Sig), .v (.st rapi_Key), .v .str] → Option (Rc.I (.pure (.tup [.t (.own 5), .t (.v (.int .i64))]) 3)) := fun (((v0, v1, v2, v3, v4, v5, v6, v7, v8, v9), (v10, v11, v12, v13, v14, v15), v16) : ((Int × (Int × (Int × (Int × ((List V) × ((List V) × (Int × (Int × ((List V) × (List V)))))))))) × ((Int × (Int × (Int × ((List V) × ((List V) × (List Int)))))) × (List UInt8)))) =>
  if decide (len v16 > 500) = true then
    some ((nilV, 4))
  else
    (F_affiantref23_Image (v10, v11, v12, v13, v14, fitI v15 0 32)).bind fun ((v17, v18) : ((List V) × Int)) =>
    if (v18 != 0) = true then
        some ((nilV, 1))
      else
        if List.length (all v17) + 1 ≤ 2147483648 then
          (F_affiantref01_Put (all (all v17 ++ [V.int .u8 180]), wu64 (len v16), 4)).bind fun ((v19, v20) : ((List V) × Int)) =>
          if List.length (all v19) + List.length (bytesV v16) ≤ 2147483648 then
              (F_affiantref25_around ((v0, v1, v2, v3, v4, v5, v6, v7, v8, v9), all (all v19 ++ bytesV v16))).bind fun ((v21, v22) : ((List V) × Int)) =>
              some ((v21, v22))
            else
              none
        else
          none
noncomputable def fn_affiantref25_OfUser : Fn := ⟨20, [.v (.st rapi_Sig), .v (.st rapi_Key), .v .str], .pure (.tup [.t (.own 5), .t (.v (.int .i64))]) 3, F_affiantref25_OfUser⟩
theorem t_affiantref25_OfUser : GoodAt Try.prog HH HSP 9 fn_affiantref25_OfUser := goodAt_of (ho := HO) (l := [fn_affiantref23_Image, fn_affiantref01_Put, fn_affiantref25_around]) rfl (hl1 (t_affiantref23_Image.up (by decide)) (hl1 (t_affiantref01_Put.up (by decide)) (hl1 (t_affiantref25_around.up (by decide)) hl0))) fun x => by kernel_rfl

noncomputable def F_image_OfUser : Ps [.v (.st rapi_Sig), .v (.st rapi_Key), .v .str] → Option (Rc.I (.pure (.tup [.t (.v (.lst false 1)), .t (.v (.int .i64))]) 3)) := fun (((v0, v1, v2, v3, v4, v5, v6, v7, v8, v9), (v10, v11, v12, v13, v14, v15), v16) : ((Int × (Int × (Int × (Int × ((List V) × ((List V) × (Int × (Int × ((List V) × (List V)))))))))) × ((Int × (Int × (Int × ((List V) × ((List V) × (List Int)))))) × (List UInt8)))) =>
  if decide (len v16 > 500) = true then
    some ((nilV, 4))
  else
    (F_key_Image (v10, v11, v12, v13, v14, fitI v15 0 32)).bind fun ((v17, v18) : ((List V) × Int)) =>
    if (v18 != 0) = true then
        some ((nilV, 1))
      else
        (F_image_put ([V.int .u8 180], len v16)).bind fun (v19 : (List V)) =>
        if List.length v16 ≤ 2147483648 then
            (F_image_around ((v0, v1, v2, v3, v4, v5, v6, v7, v8, v9), [V.sl false false 1 (all v17), V.sl false false 1 v19, V.sl false false 1 (bytesV v16)])).bind fun ((v20, v21) : ((List V) × Int)) =>
            some ((v20, v21))
          else
            none
noncomputable def fn_image_OfUser : Fn := ⟨19, [.v (.st rapi_Sig), .v (.st rapi_Key), .v .str], .pure (.tup [.t (.v (.lst false 1)), .t (.v (.int .i64))]) 3, F_image_OfUser⟩
theorem t_image_OfUser : GoodAt Try.prog HH HSP 11 fn_image_OfUser := goodAt_of (ho := HO) (l := [fn_key_Image, fn_image_put, fn_image_around]) rfl (hl1 (t_key_Image.up (by decide)) (hl1 (t_image_put.up (by decide)) (hl1 (t_image_around.up (by decide)) hl0))) fun x => by kernel_rfl

noncomputable def F_affiantref25_OfKey : Ps [.v (.st rapi_Sig), .v (.st rapi_Key)] → Option (Rc.I (.pure (.tup [.t (.own 5), .t (.v (.int .i64))]) 2)) := fun (((v0, v1, v2, v3, v4, v5, v6, v7, v8, v9), v10, v11, v12, v13, v14, v15) : ((Int × (Int × (Int × (Int × ((List V) × ((List V) × (Int × (Int × ((List V) × (List V)))))))))) × (Int × (Int × (Int × ((List V) × ((List V) × (List Int)))))))) =>
  (F_affiantref23_Image (v10, v11, v12, v13, v14, fitI v15 0 32)).bind fun ((v16, v17) : ((List V) × Int)) =>
  if (v17 != 0) = true then
      some ((nilV, 1))
    else
      (F_affiantref25_around ((v0, v1, v2, v3, v4, v5, v6, v7, v8, v9), all v16)).bind fun ((v18, v19) : ((List V) × Int)) =>
      some ((v18, v19))
noncomputable def fn_affiantref25_OfKey : Fn := ⟨18, [.v (.st rapi_Sig), .v (.st rapi_Key)], .pure (.tup [.t (.own 5), .t (.v (.int .i64))]) 2, F_affiantref25_OfKey⟩
theorem t_affiantref25_OfKey : GoodAt Try.prog HH HSP 9 fn_affiantref25_OfKey := goodAt_of (ho := HO) (l := [fn_affiantref23_Image, fn_affiantref25_around]) rfl (hl1 (t_affiantref23_Image.up (by decide)) (hl1 (t_affiantref25_around.up (by decide)) hl0)) fun x => by kernel_rfl

noncomputable def F_image_OfKey : Ps [.v (.st rapi_Sig), .v (.st rapi_Key)] → Option (Rc.I (.pure (.tup [.t (.v (.lst false 1)), .t (.v (.int .i64))]) 2)) := fun (((v0, v1, v2, v3, v4, v5, v6, v7, v8, v9), v10, v11, v12, v13, v14, v15) : ((Int × (Int × (Int × (Int × ((List V) × ((List V) × (Int × (Int × ((List V) × (List V)))))))))) × (Int × (Int × (Int × ((List V) × ((List V) × (List Int)))))))) =>
  (F_key_Image (v10, v11, v12, v13, v14, fitI v15 0 32)).bind fun ((v16, v17) : ((List V) × Int)) =>
  if (v17 != 0) = true then
      some ((nilV, 1))
    else
      (F_image_around ((v0, v1, v2, v3, v4, v5, v6, v7, v8, v9), [V.sl false false 1 (all v16)])).bind fun ((v18, v19) : ((List V) × Int)) =>
      some ((v18, v19))
noncomputable def fn_image_OfKey : Fn := ⟨17, [.v (.st rapi_Sig), .v (.st rapi_Key)], .pure (.tup [.t (.v (.lst false 1)), .t (.v (.int .i64))]) 2, F_image_OfKey⟩
theorem t_image_OfKey : GoodAt Try.prog HH HSP 11 fn_image_OfKey := goodAt_of (ho := HO) (l := [fn_key_Image, fn_image_around]) rfl (hl1 (t_key_Image.up (by decide)) (hl1 (t_image_around.up (by decide)) hl0)) fun x => by kernel_rfl

noncomputable def F_affiantref23_Small : Ps [.v (.st rapi_Key)] → Option (Rc.I (.pure (.one (.t (.v .bool))) 1)) := fun ((v0, v1, v2, v3, v4, v5) : (Int × (Int × (Int × ((List V) × ((List V) × (List Int))))))) =>
  (if decide (len v3 ≤ 520) = true then
      some (decide (len v4 ≤ 520))
    else
      some (false) : Option Bool).bind fun v6 =>
  some (v6)
noncomputable def fn_affiantref23_Small : Fn := ⟨9, [.v (.st rapi_Key)], .pure (.one (.t (.v .bool))) 1, F_affiantref23_Small⟩
theorem t_affiantref23_Small : GoodAt Try.prog HH HSP 1 fn_affiantref23_Small := goodAt_of (ho := HO) (l := []) rfl hl0 fun x => by kernel_rfl

noncomputable def F_affiantlaw25_ImageKeys : Ps [.v (.st rapi_Sig), .v (.st [.int .i64, .int .u32, .int .i64, .lst false 1, .lst false 1, .arr .u8 32, .int .i64, .int .u32, .int .i64, .lst false 1, .lst false 1, .arr .u8 32]), .v .str] → Option (Rc.I (.pure (.one (.t (.v .bool))) 3)) := fun (((v0, v1, v2, v3, v4, v5, v6, v7, v8, v9), (v10, v11, v12, v13, v14, v15, v16, v17, v18, v19, v20, v21), v22) : ((Int × (Int × (Int × (Int × ((List V) × ((List V) × (Int × (Int × ((List V) × (List V)))))))))) × ((Int × (Int × (Int × ((List V) × ((List V) × ((List Int) × (Int × (Int × (Int × ((List V) × ((List V) × (List Int)))))))))))) × (List UInt8)))) =>
  ((F_affiantref22_Small (v0, v1, v2, v3, v4, v5, v6, v7, v8, v9)).bind fun (v23 : Bool) =>
    if (!v23) = false then
        (F_affiantref23_Small (v10, v11, v12, v13, v14, fitI v15 0 32)).bind fun (v24 : Bool) =>
        if (!v24) = false then
            (F_affiantref23_Small (v16, v17, v18, v19, v20, fitI v21 0 32)).bind fun (v25 : Bool) =>
            if (!v25) = false then
                some (decide (len v22 > 600))
              else
                some (true)
          else
            some (true)
      else
        some (true) : Option Bool).bind fun v26 =>
  if v26 = true then
      (F_affiantlaw25_alive PUnit.unit).bind fun (v27 : Bool) =>
      some (v27)
    else
      (F_image_OfKey ((v0, v1, v2, v3, v4, v5, v6, v7, v8, v9), v10, v11, v12, v13, v14, fitI v15 0 32)).bind fun ((v28, v29) : ((List V) × Int)) =>
      (F_affiantref25_OfKey ((v0, v1, v2, v3, v4, v5, v6, v7, v8, v9), v10, v11, v12, v13, v14, fitI v15 0 32)).bind fun ((v30, v31) : ((List V) × Int)) =>
        (F_image_OfUser ((v0, v1, v2, v3, v4, v5, v6, v7, v8, v9), (v10, v11, v12, v13, v14, fitI v15 0 32), v22)).bind fun ((v32, v33) : ((List V) × Int)) =>
          (F_affiantref25_OfUser ((v0, v1, v2, v3, v4, v5, v6, v7, v8, v9), (v10, v11, v12, v13, v14, fitI v15 0 32), v22)).bind fun ((v34, v35) : ((List V) × Int)) =>
            (F_image_OfSubkey ((v0, v1, v2, v3, v4, v5, v6, v7, v8, v9), (v10, v11, v12, v13, v14, fitI v15 0 32), v16, v17, v18, v19, v20, fitI v21 0 32)).bind fun ((v36, v37) : ((List V) × Int)) =>
              (F_affiantref25_OfSubkey ((v0, v1, v2, v3, v4, v5, v6, v7, v8, v9), (v10, v11, v12, v13, v14, fitI v15 0 32), v16, v17, v18, v19, v20, fitI v21 0 32)).bind fun ((v38, v39) : ((List V) × Int)) =>
                ((F_affiantlaw25_alive PUnit.unit).bind fun (v40 : Bool) =>
                    if v40 = true then
                        (unbytes v28).bind fun v41 =>
                        (unbytes (all v30)).bind fun v42 =>
                          if (v41 == v42) = true then
                              if (v29 == v31) = true then
                                (unbytes v32).bind fun v43 =>
                                (unbytes (all v34)).bind fun v44 =>
                                  if (v43 == v44) = true then
                                      if (v33 == v35) = true then
                                        (unbytes v36).bind fun v45 =>
                                        (unbytes (all v38)).bind fun v46 =>
                                          if (v45 == v46) = true then
                                              some (v37 == v39)
                                            else
                                              some (false)
                                      else
                                        some (false)
                                    else
                                      some (false)
                              else
                                some (false)
                            else
                              some (false)
                      else
                        some (false) : Option Bool).bind fun v47 =>
                  some (v47)
noncomputable def fn_affiantlaw25_ImageKeys : Fn := ⟨4, [.v (.st rapi_Sig), .v (.st [.int .i64, .int .u32, .int .i64, .lst false 1, .lst false 1, .arr .u8 32, .int .i64, .int .u32, .int .i64, .lst false 1, .lst false 1, .arr .u8 32]), .v .str], .pure (.one (.t (.v .bool))) 3, F_affiantlaw25_ImageKeys⟩
theorem t_affiantlaw25_ImageKeys : GoodAt Try.prog HH HSP 12 fn_affiantlaw25_ImageKeys := goodAt_of (ho := HO) (l := [fn_affiantref22_Small, fn_affiantref23_Small, fn_affiantlaw25_alive, fn_image_OfKey, fn_affiantref25_OfKey, fn_image_OfUser, fn_affiantref25_OfUser, fn_image_OfSubkey, fn_affiantref25_OfSubkey]) rfl (hl1 (t_affiantref22_Small.up (by decide)) (hl1 (t_affiantref23_Small.up (by decide)) (hl1 (t_affiantlaw25_alive.up (by decide)) (hl1 (t_image_OfKey.up (by decide)) (hl1 (t_affiantref25_OfKey.up (by decide)) (hl1 (t_image_OfUser.up (by decide)) (hl1 (t_affiantref25_OfUser.up (by decide)) (hl1 (t_image_OfSubkey.up (by decide)) (hl1 (t_affiantref25_OfSubkey.up (by decide)) hl0))))))))) fun x => by kernel_rfl

noncomputable def F_key_Same : Ps [.v (.st rapi_Key), .v (.st rapi_Key)] → Option (Rc.I (.pure (.one (.t (.v .bool))) 2)) := fun (((v0, v1, v2, v3, v4, v5), v6, v7, v8, v9, v10, v11) : ((Int × (Int × (Int × ((List V) × ((List V) × (List Int)))))) × (Int × (Int × (Int × ((List V) × ((List V) × (List Int)))))))) =>
  (F_key_Image (v0, v1, v2, v3, v4, fitI v5 0 32)).bind fun ((v12, v13) : ((List V) × Int)) =>
  (F_key_Image (v6, v7, v8, v9, v10, fitI v11 0 32)).bind fun ((v14, v15) : ((List V) × Int)) =>
    (if (v13 == 0) = true then
          if (v15 == 0) = true then
            (F_bytes_Equal (all v12, all v14)).bind fun (v16 : Bool) =>
            some (v16)
          else
            some (false)
        else
          some (false) : Option Bool).bind fun v17 =>
      some (v17)
noncomputable def fn_key_Same : Fn := ⟨14, [.v (.st rapi_Key), .v (.st rapi_Key)], .pure (.one (.t (.v .bool))) 2, F_key_Same⟩
theorem t_key_Same : GoodAt Try.prog HH HSP 9 fn_key_Same := goodAt_of (ho := HO) (l := [fn_key_Image, fn_bytes_Equal]) rfl (hl1 (t_key_Image.up (by decide)) (hl1 (t_bytes_Equal.up (by decide)) hl0)) fun x => by kernel_rfl

noncomputable def F_affiantref04_compare : Ps [.v (.lst true 1), .v (.lst true 1)] → Option (Rc.I (.pure (.one (.t (.v (.int .i64)))) 2)) := fun ((v0, v1) : ((List V) × (List V))) =>
  loopO (σ := ((List V) × ((List V) × (Int × Int)))) (R := Int) (fun (v2, v3, v4, v5) =>
    if decide (v5 ≥ 0) = true then
      (F_affiantref04_digit (v2, v5)).bind fun (v6 : Int) =>
      (F_affiantref04_digit (v3, v5)).bind fun (v7 : Int) =>
        if decide (v6 < v7) = true then
            some (.inr (-1))
          else
            (F_affiantref04_digit (v2, v5)).bind fun (v8 : Int) =>
            (F_affiantref04_digit (v3, v5)).bind fun (v9 : Int) =>
              if decide (v8 > v9) = true then
                  some (.inr (1))
                else
                  some (.inl ((v2, v3, v4, w64 (v5 - 1))))
    else
      some (.inr (0))) ((v0, v1, 0, w64 (List.foldl (fun a b => if b > a then b else a) (len v0) [len v1] - 1)))
noncomputable def fn_affiantref04_compare : Fn := ⟨66, [.v (.lst true 1), .v (.lst true 1)], .pure (.one (.t (.v (.int .i64)))) 2, F_affiantref04_compare⟩
theorem t_affiantref04_compare : GoodAt Try.prog HH HSP 2 fn_affiantref04_compare := goodAt_of (ho := HO) (l := [fn_affiantref04_digit]) rfl (hl1 (t_affiantref04_digit.up (by decide)) hl0) fun x => by kernel_rfl

noncomputable def F_affiantref04_Cmp : Ps [.v (.lst true 1), .v (.lst true 1)] → Option (Rc.I (.pure (.one (.t (.v (.int .i64)))) 2)) := fun ((v0, v1) : ((List V) × (List V))) =>
  (F_affiantref04_Digits v0).bind fun (v2 : (List V)) =>
  (F_affiantref04_Digits v1).bind fun (v3 : (List V)) =>
    (F_affiantref04_compare (v2, v3)).bind fun (v4 : Int) =>
      some (v4)
noncomputable def fn_affiantref04_Cmp : Fn := ⟨41, [.v (.lst true 1), .v (.lst true 1)], .pure (.one (.t (.v (.int .i64)))) 2, F_affiantref04_Cmp⟩
theorem t_affiantref04_Cmp : GoodAt Try.prog HH HSP 3 fn_affiantref04_Cmp := goodAt_of (ho := HO) (l := [fn_affiantref04_Digits, fn_affiantref04_compare]) rfl (hl1 (t_affiantref04_Digits.up (by decide)) (hl1 (t_affiantref04_compare.up (by decide)) hl0)) fun x => by kernel_rfl

noncomputable def F_affiantref23_Equal : Ps [.v (.st rapi_Key), .v (.st rapi_Key)] → Option (Rc.I (.pure (.one (.t (.v .bool))) 2)) := fun (((v0, v1, v2, v3, v4, v5), v6, v7, v8, v9, v10, v11) : ((Int × (Int × (Int × ((List V) × ((List V) × (List Int)))))) × (Int × (Int × (Int × ((List V) × ((List V) × (List Int)))))))) =>
  (if (v0 == v6) = true then
      if (v1 == v7) = true then
        if (v2 == v8) = true then
          if (fitI (fitI v5 0 32) 0 32 == fitI (fitI v11 0 32) 0 32) = true then
            (F_affiantref04_Cmp (v3, v9)).bind fun (v12 : Int) =>
            if (v12 == 0) = true then
                (F_affiantref04_Cmp (v4, v10)).bind fun (v13 : Int) =>
                some (v13 == 0)
              else
                some (false)
          else
            some (false)
        else
          some (false)
      else
        some (false)
    else
      some (false) : Option Bool).bind fun v14 =>
  some (v14)
noncomputable def fn_affiantref23_Equal : Fn := ⟨13, [.v (.st rapi_Key), .v (.st rapi_Key)], .pure (.one (.t (.v .bool))) 2, F_affiantref23_Equal⟩
theorem t_affiantref23_Equal : GoodAt Try.prog HH HSP 4 fn_affiantref23_Equal := goodAt_of (ho := HO) (l := [fn_affiantref04_Cmp]) rfl (hl1 (t_affiantref04_Cmp.up (by decide)) hl0) fun x => by kernel_rfl

noncomputable def F_cursor_Cursor_Left : Ps [.nd 90 [.v (.lst false 1), .v (.int .i64)]] → Option (Rc.I (.io (.one (.t (.v (.int .i64)))) [.nd 90 [.v (.lst false 1), .v (.int .i64)]])) := fun ((v0, v1) : ((List V) × Int)) =>
  some ((w64 (len v0 - v1), v0, v1))
noncomputable def fn_cursor_Cursor_Left : Fn := ⟨64, [.nd 90 [.v (.lst false 1), .v (.int .i64)]], .io (.one (.t (.v (.int .i64)))) [.nd 90 [.v (.lst false 1), .v (.int .i64)]], F_cursor_Cursor_Left⟩
theorem t_cursor_Cursor_Left : GoodAt Try.prog HH HSP 1 fn_cursor_Cursor_Left := goodAt_of (ho := HO) (l := []) rfl hl0 fun x => by kernel_rfl

noncomputable def F_cursor_Cursor_Take : Ps [.nd 90 [.v (.lst false 1), .v (.int .i64)], .v (.int .i64)] → Option (Rc.I (.io (.tup [.t (.own 5), .t (.v (.int .i64))]) [.nd 90 [.v (.lst false 1), .v (.int .i64)], .t .dead])) := fun (((v0, v1), v2) : (((List V) × Int) × Int)) =>
  if decide (v2 < 0) = true then
    some (((nilV, 1), (v0, v1), PUnit.unit))
  else
    (F_cursor_Cursor_Left (v0, v1)).bind fun ((v3, v4, v5) : (Int × ((List V) × Int))) =>
    if decide (v2 > v3) = true then
        some (((nilV, 2), (v4, v5), PUnit.unit))
      else
        if 0 ≤ v5 then
          if 0 ≤ w64 (v5 + v2) then
            if Int.toNat v5 ≤ Int.toNat (w64 (v5 + v2)) ∧ Int.toNat (w64 (v5 + v2)) ≤ List.length v4 then
              (if List.length (List.take (Int.toNat (w64 (v5 + v2)) - Int.toNat v5) (List.drop (Int.toNat v5) v4)) ≤ 2147483648 then
                  some (List.take (Int.toNat (w64 (v5 + v2)) - Int.toNat v5) (List.drop (Int.toNat v5) v4))
                else
                  none : Option (List V)).bind fun v6 =>
              some (((all v6, 0), (v4, w64 (v5 + v2)), PUnit.unit))
            else
              none
          else
            none
        else
          none
noncomputable def fn_cursor_Cursor_Take : Fn := ⟨63, [.nd 90 [.v (.lst false 1), .v (.int .i64)], .v (.int .i64)], .io (.tup [.t (.own 5), .t (.v (.int .i64))]) [.nd 90 [.v (.lst false 1), .v (.int .i64)], .t .dead], F_cursor_Cursor_Take⟩
theorem t_cursor_Cursor_Take : GoodAt Try.prog HH HSP 2 fn_cursor_Cursor_Take := goodAt_of (ho := HO) (l := [fn_cursor_Cursor_Left, fn_bytes_Clone]) rfl (hl1 (t_cursor_Cursor_Left.up (by decide)) (hl1 (t_bytes_Clone.up (by decide)) hl0)) fun x => by kernel_rfl

noncomputable def F_cursor_Cursor_Number : Ps [.nd 90 [.v (.lst false 1), .v (.int .i64)], .v (.int .i64)] → Option (Rc.I (.io (.tup [.t (.v (.int .u64)), .t (.v (.int .i64))]) [.nd 90 [.v (.lst false 1), .v (.int .i64)], .t .dead])) := fun (((v0, v1), v2) : (((List V) × Int) × Int)) =>
  (if decide (v2 < 1) = false then
      some (decide (v2 > 8))
    else
      some (true) : Option Bool).bind fun v3 =>
  if v3 = true then
      some (((0, 1), (v0, v1), PUnit.unit))
    else
      (F_cursor_Cursor_Take ((v0, v1), v2)).bind fun (((v4, v5), (v6, v7), v8) : (((List V) × Int) × (((List V) × Int) × Unit))) =>
      loopO (σ := ((List V) × (Int × ((Nat × Nat) × (Int × Int))))) (R := ((Int × Int) × (((List V) × Int) × Unit))) (fun (v9, v10, (v11, v12), v13, v14) =>
          if decide (v14 < v13) = true then
            if 0 ≤ v14 ∧ v14 < (↑v12 : Int) then
              (v9[v11 + Int.toNat v14]?).bind fun v15 =>
              ((V.cells v15)[0]?).bind fun v16 =>
                (V.int? .u8 v16).bind fun v17 =>
                  some (.inl ((v9, wordOr .u64 (wordShl .u64 v10 8) (wu64 v17), (v11, v12), v13, w64 (v14 + 1))))
            else
              none
          else
            some (.inr (((v10, v5), (v6, v7), PUnit.unit)))) ((v4, 0, (0, List.length v4), len v4, 0))
noncomputable def fn_cursor_Cursor_Number : Fn := ⟨37, [.nd 90 [.v (.lst false 1), .v (.int .i64)], .v (.int .i64)], .io (.tup [.t (.v (.int .u64)), .t (.v (.int .i64))]) [.nd 90 [.v (.lst false 1), .v (.int .i64)], .t .dead], F_cursor_Cursor_Number⟩
theorem t_cursor_Cursor_Number : GoodAt Try.prog HH HSP 3 fn_cursor_Cursor_Number := goodAt_of (ho := HO) (l := [fn_cursor_Cursor_Take]) rfl (hl1 (t_cursor_Cursor_Take.up (by decide)) hl0) fun x => by kernel_rfl

noncomputable def F_mpi_take : Ps [.nd 90 [.v (.lst false 1), .v (.int .i64)]] → Option (Rc.I (.io (.tup [.t (.v (.lst false 1)), .t (.v (.int .i64))]) [.nd 90 [.v (.lst false 1), .v (.int .i64)]])) := fun ((v0, v1) : ((List V) × Int)) =>
  (F_cursor_Cursor_Number ((v0, v1), 2)).bind fun (((v2, v3), (v4, v5), v6) : ((Int × Int) × (((List V) × Int) × Unit))) =>
  if (v3 != 0) = true then
      some (((nilV, v3), v4, v5))
    else
      if decide (v2 > 16384) = true then
        some (((nilV, 4), v4, v5))
      else
        (F_cursor_Cursor_Take ((v4, v5), w64 (Int.tdiv (w64 (w64 v2 + 7)) 8))).bind fun (((v7, v8), (v9, v10), v11) : (((List V) × Int) × (((List V) × Int) × Unit))) =>
        if (v8 != 0) = true then
            some (((nilV, v8), v9, v10))
          else
            (F_nat_Read (all v7)).bind fun (v12 : (List V)) =>
            (F_nat_Bits v12).bind fun (v13 : Int) =>
              if (v13 != w64 v2) = true then
                  some (((nilV, 3), v9, v10))
                else
                  some (((v12, 0), v9, v10))
noncomputable def fn_mpi_take : Fn := ⟨101, [.nd 90 [.v (.lst false 1), .v (.int .i64)]], .io (.tup [.t (.v (.lst false 1)), .t (.v (.int .i64))]) [.nd 90 [.v (.lst false 1), .v (.int .i64)]], F_mpi_take⟩
theorem t_mpi_take : GoodAt Try.prog HH HSP 4 fn_mpi_take := goodAt_of (ho := HO) (l := [fn_cursor_Cursor_Number, fn_cursor_Cursor_Take, fn_nat_Read, fn_nat_Bits]) rfl (hl1 (t_cursor_Cursor_Number.up (by decide)) (hl1 (t_cursor_Cursor_Take.up (by decide)) (hl1 (t_nat_Read.up (by decide)) (hl1 (t_nat_Bits.up (by decide)) hl0)))) fun x => by kernel_rfl

noncomputable def F_cursor_Over : Ps [.v (.lst true 1)] → Option (Rc.I (.pure (.one (.nd 90 [.v (.lst false 1), .v (.int .i64)])) 1)) := fun (v0 : (List V)) =>
  (if List.length v0 ≤ 2147483648 then
      some (v0)
    else
      none : Option (List V)).bind fun v1 =>
  some ((v1, 0))
noncomputable def fn_cursor_Over : Fn := ⟨36, [.v (.lst true 1)], .pure (.one (.nd 90 [.v (.lst false 1), .v (.int .i64)])) 1, F_cursor_Over⟩
theorem t_cursor_Over : GoodAt Try.prog HH HSP 2 fn_cursor_Over := goodAt_of (ho := HO) (l := [fn_bytes_Clone]) rfl (hl1 (t_bytes_Clone.up (by decide)) hl0) fun x => by kernel_rfl

noncomputable def F_mpi_All : Ps [.v (.lst true 1), .v (.int .i64)] → Option (Rc.I (.pure (.tup [.t (.own 24), .t (.v (.int .i64))]) 2)) := fun ((v0, v1) : ((List V) × Int)) =>
  (if decide (v1 < 0) = false then
      some (decide (v1 > 10))
    else
      some (true) : Option Bool).bind fun v2 =>
  if v2 = true then
      some ((nilV, 1))
    else
      (F_cursor_Over v0).bind fun ((v3, v4) : ((List V) × Int)) =>
      loopO (σ := ((List V) × (Int × (((List V) × Int) × ((List V) × (Int × Int)))))) (R := ((List V) × Int)) (fun (v5, v6, (v7, v8), v9, v10, v11) =>
          if decide (v11 < v10) = true then
            (F_mpi_take (v7, v8)).bind fun (((v12, v13), v14, v15) : (((List V) × Int) × ((List V) × Int))) =>
            if (v13 != 0) = true then
                some (.inr ((nilV, v13)))
              else
                if List.length (all v9) + 1 ≤ 2147483648 then
                  some (.inl ((v5, v6, (v14, v15), all v9 ++ [V.sl false false 1 v12], v10, w64 (v11 + 1))))
                else
                  none
          else
            ((F_cursor_Cursor_Left (v7, v8)).bind fun ((v16, v17, v18) : (Int × ((List V) × Int))) =>
              if decide (v16 > 0) = true then
                  some ((nilV, 3))
                else
                  some ((all v9, 0)) : Option ((List V) × Int)).bind fun (v19, v20) =>
            some (.inr ((v19, v20)))) ((nilV, 0, (v3, v4), nilV, v1, 0))
noncomputable def fn_mpi_All : Fn := ⟨65, [.v (.lst true 1), .v (.int .i64)], .pure (.tup [.t (.own 24), .t (.v (.int .i64))]) 2, F_mpi_All⟩
theorem t_mpi_All : GoodAt Try.prog HH HSP 5 fn_mpi_All := goodAt_of (ho := HO) (l := [fn_cursor_Over, fn_mpi_take, fn_cursor_Cursor_Left]) rfl (hl1 (t_cursor_Over.up (by decide)) (hl1 (t_mpi_take.up (by decide)) (hl1 (t_cursor_Cursor_Left.up (by decide)) hl0))) fun x => by kernel_rfl

noncomputable def F_key_fill : Ps [.v (.st rapi_Key), .v (.lst true 1)] → Option (Rc.I (.pure (.tup [.t (.v (.st rapi_Key)), .t (.v (.int .i64))]) 2)) := fun (((v0, v1, v2, v3, v4, v5), v6) : ((Int × (Int × (Int × ((List V) × ((List V) × (List Int)))))) × (List V))) =>
  if (v2 == 27) = true then
    if (len v6 != 32) = true then
      some (((0, 0, 0, nilV, nilV, rep 32 0), 3))
    else
      if 32 ≤ List.length v6 then
        (intsOf .u8 32 v6).bind fun v7 =>
        some (((v0, v1, v2, v3, v4, fitI (fitI v7 0 32) 0 32), 0))
      else
        none
  else
    (F_mpi_All (v6, 2)).bind fun ((v8, v9) : ((List V) × Int)) =>
    if (v9 != 0) = true then
        some (((0, 0, 0, nilV, nilV, rep 32 0), v9))
      else
        if idI 0 ≤ 0 ∧ 0 < len v8 then
          (v8[0]?).bind fun v10 =>
          ((V.cells v10)[0]?).bind fun v11 =>
            (V.lst? false 1 v11).bind fun v12 =>
              if idI 0 ≤ 1 ∧ 1 < len v8 then
                  (v8[1]?).bind fun v13 =>
                  ((V.cells v13)[0]?).bind fun v14 =>
                    (V.lst? false 1 v14).bind fun v15 =>
                      some (((v0, v1, v2, v12, v15, fitI v5 0 32), 0))
                else
                  none
        else
          none
noncomputable def fn_key_fill : Fn := ⟨39, [.v (.st rapi_Key), .v (.lst true 1)], .pure (.tup [.t (.v (.st rapi_Key)), .t (.v (.int .i64))]) 2, F_key_fill⟩
theorem t_key_fill : GoodAt Try.prog HH HSP 6 fn_key_fill := goodAt_of (ho := HO) (l := [fn_mpi_All]) rfl (hl1 (t_mpi_All.up (by decide)) hl0) fun x => by kernel_rfl

noncomputable def F_cursor_Cursor_Rest : Ps [.nd 90 [.v (.lst false 1), .v (.int .i64)]] → Option (Rc.I (.io (.one (.t (.own 5))) [.nd 90 [.v (.lst false 1), .v (.int .i64)]])) := fun ((v0, v1) : ((List V) × Int)) =>
  (F_cursor_Cursor_Left (v0, v1)).bind fun ((v2, v3, v4) : (Int × ((List V) × Int))) =>
  (F_cursor_Cursor_Take ((v3, v4), v2)).bind fun (((v5, v6), (v7, v8), v9) : (((List V) × Int) × (((List V) × Int) × Unit))) =>
    some ((all v5, v7, v8))
noncomputable def fn_cursor_Cursor_Rest : Fn := ⟨40, [.nd 90 [.v (.lst false 1), .v (.int .i64)]], .io (.one (.t (.own 5))) [.nd 90 [.v (.lst false 1), .v (.int .i64)]], F_cursor_Cursor_Rest⟩
theorem t_cursor_Cursor_Rest : GoodAt Try.prog HH HSP 3 fn_cursor_Cursor_Rest := goodAt_of (ho := HO) (l := [fn_cursor_Cursor_Left, fn_cursor_Cursor_Take]) rfl (hl1 (t_cursor_Cursor_Left.up (by decide)) (hl1 (t_cursor_Cursor_Take.up (by decide)) hl0)) fun x => by kernel_rfl

noncomputable def F_key_size : Ps [.nd 90 [.v (.lst false 1), .v (.int .i64)], .v (.int .i64)] → Option (Rc.I (.io (.one (.t (.v (.int .i64)))) [.nd 90 [.v (.lst false 1), .v (.int .i64)], .t .dead])) := fun (((v0, v1), v2) : (((List V) × Int) × Int)) =>
  if (v2 != 6) = true then
    some ((0, (v0, v1), PUnit.unit))
  else
    (F_cursor_Cursor_Number ((v0, v1), 4)).bind fun (((v3, v4), (v5, v6), v7) : ((Int × Int) × (((List V) × Int) × Unit))) =>
    if (v4 == 0) = true then
        (F_cursor_Cursor_Left (v5, v6)).bind fun ((v8, v9, v10) : (Int × ((List V) × Int))) =>
        if (v3 != wu64 v8) = true then
            some ((3, (v9, v10), PUnit.unit))
          else
            some ((v4, (v9, v10), PUnit.unit))
      else
        some ((v4, (v5, v6), PUnit.unit))
noncomputable def fn_key_size : Fn := ⟨38, [.nd 90 [.v (.lst false 1), .v (.int .i64)], .v (.int .i64)], .io (.one (.t (.v (.int .i64)))) [.nd 90 [.v (.lst false 1), .v (.int .i64)], .t .dead], F_key_size⟩
theorem t_key_size : GoodAt Try.prog HH HSP 4 fn_key_size := goodAt_of (ho := HO) (l := [fn_cursor_Cursor_Number, fn_cursor_Cursor_Left]) rfl (hl1 (t_cursor_Cursor_Number.up (by decide)) (hl1 (t_cursor_Cursor_Left.up (by decide)) hl0)) fun x => by kernel_rfl

noncomputable def F_key_Parse : Ps [.v (.lst true 1)] → Option (Rc.I (.pure (.tup [.t (.v (.st rapi_Key)), .t (.v (.int .i64))]) 1)) := fun (v0 : (List V)) =>
  (F_cursor_Over v0).bind fun ((v1, v2) : ((List V) × Int)) =>
  (F_cursor_Cursor_Number ((v1, v2), 1)).bind fun (((v3, v4), (v5, v6), v7) : ((Int × Int) × (((List V) × Int) × Unit))) =>
    if (v4 != 0) = true then
        some (((0, 0, 0, nilV, nilV, rep 32 0), v4))
      else
        (if (v3 != 4) = true then
            some (v3 != 6)
          else
            some (false) : Option Bool).bind fun v8 =>
        if v8 = true then
            some (((0, 0, 0, nilV, nilV, rep 32 0), 3))
          else
            (F_cursor_Cursor_Number ((v5, v6), 4)).bind fun (((v9, v10), (v11, v12), v13) : ((Int × Int) × (((List V) × Int) × Unit))) =>
            if (v10 != 0) = true then
                some (((0, 0, 0, nilV, nilV, rep 32 0), v10))
              else
                (F_cursor_Cursor_Number ((v11, v12), 1)).bind fun (((v14, v15), (v16, v17), v18) : ((Int × Int) × (((List V) × Int) × Unit))) =>
                if (v15 != 0) = true then
                    some (((0, 0, 0, nilV, nilV, rep 32 0), v15))
                  else
                    (if (w64 v14 != 1) = true then
                        some (w64 v14 != 27)
                      else
                        some (false) : Option Bool).bind fun v19 =>
                    if v19 = true then
                        some (((0, 0, 0, nilV, nilV, rep 32 0), 9))
                      else
                        (F_key_size ((v16, v17), w64 v3)).bind fun ((v20, (v21, v22), v23) : (Int × (((List V) × Int) × Unit))) =>
                        if (v20 != 0) = true then
                            some (((0, 0, 0, nilV, nilV, rep 32 0), v20))
                          else
                            (F_cursor_Cursor_Rest (v21, v22)).bind fun ((v24, v25, v26) : ((List V) × ((List V) × Int))) =>
                            (F_key_fill ((w64 v3, wu32 v9, w64 v14, nilV, nilV, rep 32 0), all v24)).bind fun (((v27, v28, v29, v30, v31, v32), v33) : ((Int × (Int × (Int × ((List V) × ((List V) × (List Int)))))) × Int)) =>
                              some (((v27, v28, v29, v30, v31, fitI v32 0 32), v33))
noncomputable def fn_key_Parse : Fn := ⟨12, [.v (.lst true 1)], .pure (.tup [.t (.v (.st rapi_Key)), .t (.v (.int .i64))]) 1, F_key_Parse⟩
theorem t_key_Parse : GoodAt Try.prog HH HSP 7 fn_key_Parse := goodAt_of (ho := HO) (l := [fn_cursor_Over, fn_cursor_Cursor_Number, fn_key_size, fn_cursor_Cursor_Rest, fn_key_fill]) rfl (hl1 (t_cursor_Over.up (by decide)) (hl1 (t_cursor_Cursor_Number.up (by decide)) (hl1 (t_key_size.up (by decide)) (hl1 (t_cursor_Cursor_Rest.up (by decide)) (hl1 (t_key_fill.up (by decide)) hl0))))) fun x => by kernel_rfl

noncomputable def F_affiantlaw23_alive : Ps [] → Option (Rc.I (.pure (.one (.t (.v .bool))) 0)) := fun (v0 : Unit) =>
  (F_key_Image (4, 0, 27, nilV, nilV, rep 32 0)).bind fun ((v1, v2) : ((List V) × Int)) =>
  (F_key_Parse [V.int .u8 3]).bind fun (((v3, v4, v5, v6, v7, v8), v9) : ((Int × (Int × (Int × ((List V) × ((List V) × (List Int)))))) × Int)) =>
    (if (v2 == 0) = true then
          if (len v1 == 41) = true then
            if idN 0 ≤ 4 ∧ 4 ≤ List.length v1 then
              (unbytes (List.take 4 (List.drop 0 v1))).bind fun v10 =>
              if (v10 == by8 [153, 0, 38, 4]) = true then
                  some (v9 == 3)
                else
                  some (false)
            else
              none
          else
            some (false)
        else
          some (false) : Option Bool).bind fun v11 =>
      some (v11)
noncomputable def fn_affiantlaw23_alive : Fn := ⟨10, [], .pure (.one (.t (.v .bool))) 0, F_affiantlaw23_alive⟩
theorem t_affiantlaw23_alive : GoodAt Try.prog HH HSP 9 fn_affiantlaw23_alive := goodAt_of (ho := HO) (l := [fn_key_Image, fn_key_Parse]) rfl (hl1 (t_key_Image.up (by decide)) (hl1 (t_key_Parse.up (by decide)) hl0)) fun x => by kernel_rfl

noncomputable def F_affiantlaw23_KeyBack : Ps [.v (.st rapi_Key)] → Option (Rc.I (.pure (.one (.t (.v .bool))) 1)) := fun ((v0, v1, v2, v3, v4, v5) : (Int × (Int × (Int × ((List V) × ((List V) × (List Int))))))) =>
  (F_affiantref23_Small (v0, v1, v2, v3, v4, fitI v5 0 32)).bind fun (v6 : Bool) =>
  if (!v6) = true then
      (F_affiantlaw23_alive PUnit.unit).bind fun (v7 : Bool) =>
      some (v7)
    else
      (F_key_Emit (v0, v1, v2, v3, v4, fitI v5 0 32)).bind fun ((v8, v9) : ((List V) × Int)) =>
      if (v9 != 0) = true then
          ((F_affiantlaw23_alive PUnit.unit).bind fun (v10 : Bool) =>
            if v10 = true then
                if (v9 == 1) = true then
                  some (len v8 == 0)
                else
                  some (false)
              else
                some (false) : Option Bool).bind fun v11 =>
          some (v11)
        else
          if (len v8 == 0) = true then
            some (false)
          else
            (F_key_Parse (all v8)).bind fun (((v12, v13, v14, v15, v16, v17), v18) : ((Int × (Int × (Int × ((List V) × ((List V) × (List Int)))))) × Int)) =>
            if 0 + List.length (all v8) ≤ 2147483648 then
                if List.length (all (all v8)) + 1 ≤ 2147483648 then
                  (F_key_Parse (all (all (all v8) ++ [V.int .u8 0]))).bind fun (((v19, v20, v21, v22, v23, v24), v25) : ((Int × (Int × (Int × ((List V) × ((List V) × (List Int)))))) × Int)) =>
                  if 0 ≤ w64 (len v8 - 1) then
                      if 0 ≤ Int.toNat (w64 (len v8 - 1)) ∧ Int.toNat (w64 (len v8 - 1)) ≤ List.length v8 then
                        (F_key_Parse (List.take (Int.toNat (w64 (len v8 - 1))) (List.drop 0 v8))).bind fun (((v26, v27, v28, v29, v30, v31), v32) : ((Int × (Int × (Int × ((List V) × ((List V) × (List Int)))))) × Int)) =>
                        ((F_affiantlaw23_alive PUnit.unit).bind fun (v33 : Bool) =>
                            if v33 = true then
                                if (v18 == 0) = true then
                                  (F_affiantref23_Equal ((v0, v1, v2, v3, v4, fitI v5 0 32), v12, v13, v14, v15, v16, fitI v17 0 32)).bind fun (v34 : Bool) =>
                                  if v34 = true then
                                      (F_key_Same ((v0, v1, v2, v3, v4, fitI v5 0 32), v12, v13, v14, v15, v16, fitI v17 0 32)).bind fun (v35 : Bool) =>
                                      if v35 = true then
                                          if (v25 == 3) = true then
                                            some (v32 != 0)
                                          else
                                            some (false)
                                        else
                                          some (false)
                                    else
                                      some (false)
                                else
                                  some (false)
                              else
                                some (false) : Option Bool).bind fun v36 =>
                          some (v36)
                      else
                        none
                    else
                      none
                else
                  none
              else
                none
noncomputable def fn_affiantlaw23_KeyBack : Fn := ⟨3, [.v (.st rapi_Key)], .pure (.one (.t (.v .bool))) 1, F_affiantlaw23_KeyBack⟩
theorem t_affiantlaw23_KeyBack : GoodAt Try.prog HH HSP 10 fn_affiantlaw23_KeyBack := goodAt_of (ho := HO) (l := [fn_affiantref23_Small, fn_affiantlaw23_alive, fn_key_Emit, fn_key_Parse, fn_affiantref23_Equal, fn_key_Same]) rfl (hl1 (t_affiantref23_Small.up (by decide)) (hl1 (t_affiantlaw23_alive.up (by decide)) (hl1 (t_key_Emit.up (by decide)) (hl1 (t_key_Parse.up (by decide)) (hl1 (t_affiantref23_Equal.up (by decide)) (hl1 (t_key_Same.up (by decide)) hl0)))))) fun x => by kernel_rfl


end Go.Proofs.Ytffofdfikmpanaa.A
