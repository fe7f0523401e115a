/- What the program's functions come to. Conditions: none. -/
import Derived.Test.YtffofdfikmpanaaLE
import Derived.Test.YtffofdfikmpanaaChecked
set_option linter.unusedVariables false
set_option linter.unusedSimpArgs false
set_option linter.constructorNameAsVariable false
set_option linter.unusedSectionVars false

namespace Go.Proofs.Ytffofdfikmpanaa.A
open Go Go.Proofs
set_option maxRecDepth 100000
noncomputable def HH : Hints := { ht := fun f => match Try.prog.funcs[f]? with | some fn => funcHTz (match f with | 103 => [2] | 67 => [2] | 168 => [2] | 135 => [2] | 101 => [2] | _ => []) fn | none => .z, mode := fun f k => match f, k with | 109, 0 => 2 | 73, 0 => 2 | 134, 0 => 2 | 100, 0 => 2 | 61, 0 => 2 | 61, 1 => 2 | 60, 0 => 2 | 103, 0 => 2 | 168, 0 => 2 | _, _ => 0, give := fun f d => match f with | 62 => [6].contains d | 35 => [6].contains d | 133 => [4].contains d | 100 => [2].contains d | 61 => [4].contains d | 34 => [2].contains d | 11 => [2].contains d | 32 => [2].contains d | 63 => [4].contains d | 65 => [4].contains d | 40 => [2].contains d | _ => false, same := fun f => false, raw := fun t => [].contains t, iter := fun f caps => match f, caps with | 146, [.ref _ [.sl _ _ _ es]] => downItems .u32 es | _, _ => none }
noncomputable def HO : Ho := { item := fun f => match f with | 146 => [.int .i64, .int .u32] | _ => [], bigT := fun t => [].contains t }
noncomputable def HSP : Told := fun f => match f with | 51 => some (fun args => match args with | [.v (.sl true false 1 es)] => if es.length ≤ 2147483648 then some (.own 5 es, [.dead]) else none | _ => none) | _ => none
noncomputable def F_bytes_Clone : Ps [.v (.lst true 1)] → Option (Rc.I (.pure (.one (.t (.own 5))) 1)) := fun l => if l.length ≤ 2147483648 then some l else none
noncomputable def fn_bytes_Clone : Fn := ⟨51, [.v (.lst true 1)], .pure (.one (.t (.own 5))) 1, F_bytes_Clone⟩
theorem t_bytes_Clone : GoodAt Try.prog HH HSP 1 fn_bytes_Clone := goodAt_told rfl fun (x : List V) y h => by have h : (if x.length ≤ 2147483648 then some x else none) = some y := h; split at h <;> first | (rename_i hx; cases h; exact if_pos hx) | cases h
@[reducible] def rapi_Key : List Cc := [.int .i64, .int .u32, .int .i64, .lst false 1, .lst false 1, .arr .u8 32]
noncomputable def F_bytes_Equal : Ps [.v (.lst true 1), .v (.lst true 1)] → Option (Rc.I (.pure (.one (.t (.v .bool))) 2)) := fun ((v0, v1) : ((List V) × (List V))) =>
  (unbytes v0).bind fun v2 =>
  (unbytes v1).bind fun v3 =>
    some (v2 == v3)
noncomputable def fn_bytes_Equal : Fn := ⟨42, [.v (.lst true 1), .v (.lst true 1)], .pure (.one (.t (.v .bool))) 2, F_bytes_Equal⟩
theorem t_bytes_Equal : GoodAt Try.prog HH HSP 1 fn_bytes_Equal := goodAt_of (ho := HO) (l := []) rfl hl0 fun x => by kernel_rfl

noncomputable def F_cursor_Put : Ps [.v (.lst true 1), .v (.int .u64), .v (.int .i64)] → Option (Rc.I (.pure (.tup [.t (.own 5), .t (.v (.int .i64))]) 3)) := fun ((v0, v1, v2) : ((List V) × (Int × Int))) =>
  (if decide (v2 < 1) = false then
      if decide (v2 > 8) = false then
        if decide (v2 < 8) = true then
          if w64 (8 * v2) < 0 then
            none
          else
            some (wordShr .u64 v1 (w64 (8 * v2)) != 0)
        else
          some (false)
      else
        some (true)
    else
      some (true) : Option Bool).bind fun v3 =>
  if v3 = true then
      some ((nilV, 1))
    else
      if 0 ≤ len v0 ∧ len v0 ≤ w64 (len v0 + v2) ∧ w64 (len v0 + v2) ≤ 2147483648 then
        loopO (σ := (Int × ((List V) × Int))) (R := ((List V) × Int)) (fun (v4, v5, v6) =>
          if decide (v6 ≥ 0) = true then
            if v6 < 0 then
              none
            else
              if List.length (all v5) + 1 ≤ 2147483648 then
                some (.inl ((v4, all v5 ++ [V.int .u8 (wu8 (wordShr .u64 v4 v6))], w64 (v6 - 8))))
              else
                none
          else
            some (.inr ((all v5, 0)))) ((v1, List.take (min (List.length (rep (List.length v0) (V.int .u8 0))) (List.length v0)) v0 ++ List.drop (0 + min (List.length (rep (List.length v0) (V.int .u8 0))) (List.length v0)) (rep (List.length v0) (V.int .u8 0)), w64 (8 * w64 (v2 - 1))))
      else
        none
noncomputable def fn_cursor_Put : Fn := ⟨62, [.v (.lst true 1), .v (.int .u64), .v (.int .i64)], .pure (.tup [.t (.own 5), .t (.v (.int .i64))]) 3, F_cursor_Put⟩
theorem t_cursor_Put : GoodAt Try.prog HH HSP 1 fn_cursor_Put := goodAt_of (ho := HO) (l := []) rfl hl0 fun x => by kernel_rfl

noncomputable def F_key_put : Ps [.v (.lst true 1), .v (.int .i64), .v (.int .i64)] → Option (Rc.I (.pure (.one (.t (.own 5))) 3)) := fun ((v0, v1, v2) : ((List V) × (Int × Int))) =>
  (F_cursor_Put (v0, wu64 v1, v2)).bind fun ((v3, v4) : ((List V) × Int)) =>
  some (all v3)
noncomputable def fn_key_put : Fn := ⟨35, [.v (.lst true 1), .v (.int .i64), .v (.int .i64)], .pure (.one (.t (.own 5))) 3, F_key_put⟩
theorem t_key_put : GoodAt Try.prog HH HSP 2 fn_key_put := goodAt_of (ho := HO) (l := [fn_cursor_Put]) rfl (hl1 (t_cursor_Put.up (by decide)) hl0) fun x => by kernel_rfl

noncomputable def F_nat_word : Ps [.v (.lst true 1), .v (.int .i64)] → Option (Rc.I (.pure (.one (.t (.v (.int .u32)))) 2)) := fun ((v0, v1) : ((List V) × Int)) =>
  if decide (v1 < len v0) = true then
    if 0 ≤ v1 then
      (v0[Int.toNat v1]?).bind fun v2 =>
      (V.int? .u32 v2).bind fun v3 =>
        some (v3)
    else
      none
  else
    some (0)
noncomputable def fn_nat_word : Fn := ⟨167, [.v (.lst true 1), .v (.int .i64)], .pure (.one (.t (.v (.int .u32)))) 2, F_nat_word⟩
theorem t_nat_word : GoodAt Try.prog HH HSP 1 fn_nat_word := goodAt_of (ho := HO) (l := []) rfl hl0 fun x => by kernel_rfl

noncomputable def F_nat_lay : Ps [.v (.lst true 1), .v (.int .i64)] → Option (Rc.I (.pure (.one (.t (.own 5))) 2)) := fun ((v0, v1) : ((List V) × Int)) =>
  if 0 ≤ v1 ∧ v1 ≤ v1 ∧ v1 ≤ 2147483648 then
    loopO (σ := ((List V) × (Int × ((List V) × (Int × Int))))) (R := (List V)) (fun (v2, v3, v4, v5, v6) =>
      if decide (v6 < v5) = true then
        (F_nat_word (v2, w64 (Int.tdiv v6 4))).bind fun (v7 : Int) =>
        if w64 (8 * Int.tmod v6 4) < 0 then
            none
          else
            if 0 ≤ w64 (w64 (v3 - 1) - v6) ∧ w64 (w64 (v3 - 1) - v6) < len v4 then
              (v4[0 + Int.toNat (w64 (w64 (v3 - 1) - v6))]?).bind fun v8 =>
              some (.inl ((v2, v3, List.set v4 (0 + Int.toNat (w64 (w64 (v3 - 1) - v6))) (storeEl v8 0 (V.cells (V.int .u8 (wu8 (wordShr .u32 v7 (w64 (8 * Int.tmod v6 4))))))), v5, w64 (v6 + 1))))
            else
              none
      else
        some (.inr (all v4))) ((v0, v1, rep (Int.toNat v1) (V.int .u8 0), len (rep (Int.toNat v1) (V.int .u8 0)), 0))
  else
    none
noncomputable def fn_nat_lay : Fn := ⟨133, [.v (.lst true 1), .v (.int .i64)], .pure (.one (.t (.own 5))) 2, F_nat_lay⟩
theorem t_nat_lay : GoodAt Try.prog HH HSP 2 fn_nat_lay := goodAt_of (ho := HO) (l := [fn_nat_word]) rfl (hl1 (t_nat_word.up (by decide)) hl0) fun x => by kernel_rfl

noncomputable def F_math_bits_Len32 : Ps [.v (.int .u32)] → Option (Rc.I (.pure (.one (.t (.v (.int .i64)))) 1)) := fun (v0 : Int) =>
  (if decide (v0 ≥ 65536) = true then
      some (.inl ((wordShr .u32 v0 16, 16)))
    else
      some (.inl ((v0, 0))) : Option ((Int × Int) ⊕ Int)).bind fun v1 =>
  match v1 with
    | .inl (v2, v3) =>
      (if decide (v2 ≥ 256) = true then
          some (.inl ((wordShr .u32 v2 8, w64 (v3 + 8))))
        else
          some (.inl ((v2, v3))) : Option ((Int × Int) ⊕ Int)).bind fun v4 =>
      match v4 with
        | .inl (v5, v6) =>
          if 0 ≤ wu8 v5 then
            ((List.append (List.append (by8 [0, 1, 2, 2, 3, 3, 3, 3, 4, 4, 4, 4, 4, 4, 4, 4, 5, 5, 5, 5, 5, 5, 5, 5, 5, 5, 5, 5, 5, 5, 5, 5, 6, 6, 6, 6, 6, 6, 6, 6, 6, 6, 6, 6, 6, 6, 6, 6, 6, 6, 6, 6, 6, 6, 6, 6, 6, 6, 6, 6, 6, 6, 6, 6]) (by8 [7, 7, 7, 7, 7, 7, 7, 7, 7, 7, 7, 7, 7, 7, 7, 7, 7, 7, 7, 7, 7, 7, 7, 7, 7, 7, 7, 7, 7, 7, 7, 7, 7, 7, 7, 7, 7, 7, 7, 7, 7, 7, 7, 7, 7, 7, 7, 7, 7, 7, 7, 7, 7, 7, 7, 7, 7, 7, 7, 7, 7, 7, 7, 7])) (List.append (by8 [8, 8, 8, 8, 8, 8, 8, 8, 8, 8, 8, 8, 8, 8, 8, 8, 8, 8, 8, 8, 8, 8, 8, 8, 8, 8, 8, 8, 8, 8, 8, 8, 8, 8, 8, 8, 8, 8, 8, 8, 8, 8, 8, 8, 8, 8, 8, 8, 8, 8, 8, 8, 8, 8, 8, 8, 8, 8, 8, 8, 8, 8, 8, 8]) (by8 [8, 8, 8, 8, 8, 8, 8, 8, 8, 8, 8, 8, 8, 8, 8, 8, 8, 8, 8, 8, 8, 8, 8, 8, 8, 8, 8, 8, 8, 8, 8, 8, 8, 8, 8, 8, 8, 8, 8, 8, 8, 8, 8, 8, 8, 8, 8, 8, 8, 8, 8, 8, 8, 8, 8, 8, 8, 8, 8, 8, 8, 8, 8, 8])))[Int.toNat (wu8 v5)]?).bind fun v7 =>
            some (w64 (v6 + w64 (↑(UInt8.toNat v7) : Int)))
          else
            none
        | .inr v8 =>
          some (v8)
    | .inr v9 =>
      some (v9)
noncomputable def fn_math_bits_Len32 : Fn := ⟨110, [.v (.int .u32)], .pure (.one (.t (.v (.int .i64)))) 1, F_math_bits_Len32⟩
theorem t_math_bits_Len32 : GoodAt Try.prog HH HSP 1 fn_math_bits_Len32 := goodAt_of (ho := HO) (l := []) rfl hl0 fun x => by kernel_rfl

noncomputable def F_nat_down : Ps [.v (.lst false 1)] → Option (Rc.I (.pure (.one (.t (.v (.clo1 146 (.lst false 1))))) 1)) := fun (v0 : (List V)) =>
  some (v0)
noncomputable def fn_nat_down : Fn := ⟨109, [.v (.lst false 1)], .pure (.one (.t (.v (.clo1 146 (.lst false 1))))) 1, F_nat_down⟩
theorem t_nat_down : GoodAt Try.prog HH HSP 1 fn_nat_down := goodAt_of (ho := HO) (l := []) rfl hl0 fun x => by kernel_rfl

noncomputable def F_nat_Bits : Ps [.v (.lst false 1)] → Option (Rc.I (.pure (.one (.t (.v (.int .i64)))) 1)) := fun (v0 : (List V)) =>
  (F_nat_down v0).bind fun (v1 : (List V)) =>
  (downItems .u32 v1).bind fun v2 =>
    loopO (σ := ((List (List V)) × (Int × (List V)))) (R := Int) (fun (v3, v4, v5) =>
        match v3 with
        | [] =>
          some (.inr (0))
        | v6 :: v7 =>
          (v6[0]?).bind fun v8 =>
          (V.int? .i64 v8).bind fun v9 =>
            (v6[1]?).bind fun v10 =>
              (V.int? .u32 v10).bind fun v11 =>
                if List.length v6 = 2 then
                    if (v11 != 0) = true then
                      (F_math_bits_Len32 v11).bind fun (v12 : Int) =>
                      some (.inr (w64 (w64 (32 * v9) + v12)))
                    else
                      some (.inl ((v7, v4, v5)))
                  else
                    none) ((v2, 0, v1))
noncomputable def fn_nat_Bits : Fn := ⟨73, [.v (.lst false 1)], .pure (.one (.t (.v (.int .i64)))) 1, F_nat_Bits⟩
theorem t_nat_Bits : GoodAt Try.prog HH HSP 2 fn_nat_Bits := goodAt_of (ho := HO) (l := [fn_nat_down, fn_math_bits_Len32]) rfl (hl1 (t_nat_down.up (by decide)) (hl1 (t_math_bits_Len32.up (by decide)) hl0)) fun x => by kernel_rfl

noncomputable def F_nat_long : Ps [.v (.lst false 1)] → Option (Rc.I (.pure (.one (.t (.v (.int .i64)))) 1)) := fun (v0 : (List V)) =>
  (F_nat_Bits v0).bind fun (v1 : Int) =>
  some (w64 (Int.tdiv (w64 (v1 + 7)) 8))
noncomputable def fn_nat_long : Fn := ⟨134, [.v (.lst false 1)], .pure (.one (.t (.v (.int .i64)))) 1, F_nat_long⟩
theorem t_nat_long : GoodAt Try.prog HH HSP 3 fn_nat_long := goodAt_of (ho := HO) (l := [fn_nat_Bits]) rfl (hl1 (t_nat_Bits.up (by decide)) hl0) fun x => by kernel_rfl

noncomputable def F_nat_Bytes : Ps [.v (.lst false 1)] → Option (Rc.I (.pure (.one (.t (.own 5))) 1)) := fun (v0 : (List V)) =>
  (F_nat_long v0).bind fun (v1 : Int) =>
  (F_nat_lay (v0, v1)).bind fun (v2 : (List V)) =>
    some (v2)
noncomputable def fn_nat_Bytes : Fn := ⟨100, [.v (.lst false 1)], .pure (.one (.t (.own 5))) 1, F_nat_Bytes⟩
theorem t_nat_Bytes : GoodAt Try.prog HH HSP 4 fn_nat_Bytes := goodAt_of (ho := HO) (l := [fn_nat_long, fn_nat_lay]) rfl (hl1 (t_nat_long.up (by decide)) (hl1 (t_nat_lay.up (by decide)) hl0)) fun x => by kernel_rfl

noncomputable def F_mpi_Put : Ps [.v (.lst false 1), .v (.lst false 1)] → Option (Rc.I (.pure (.tup [.t (.own 5), .t (.v (.int .i64))]) 2)) := fun ((v0, v1) : ((List V) × (List V))) =>
  (F_nat_Bits v1).bind fun (v2 : Int) =>
  if decide (v2 > 16384) = true then
      some ((nilV, 4))
    else
      (F_cursor_Put (v0, wu64 v2, 2)).bind fun ((v3, v4) : ((List V) × Int)) =>
      (F_nat_Bytes v1).bind fun (v5 : (List V)) =>
        if List.length (all v3) + List.length (all v5) ≤ 2147483648 then
            some ((all v3 ++ all v5, v4))
          else
            none
noncomputable def fn_mpi_Put : Fn := ⟨61, [.v (.lst false 1), .v (.lst false 1)], .pure (.tup [.t (.own 5), .t (.v (.int .i64))]) 2, F_mpi_Put⟩
theorem t_mpi_Put : GoodAt Try.prog HH HSP 5 fn_mpi_Put := goodAt_of (ho := HO) (l := [fn_nat_Bits, fn_cursor_Put, fn_nat_Bytes]) rfl (hl1 (t_nat_Bits.up (by decide)) (hl1 (t_cursor_Put.up (by decide)) (hl1 (t_nat_Bytes.up (by decide)) hl0))) fun x => by kernel_rfl

noncomputable def F_key_material : Ps [.v (.st rapi_Key)] → Option (Rc.I (.pure (.one (.t (.own 5))) 1)) := fun ((v0, v1, v2, v3, v4, v5) : (Int × (Int × (Int × ((List V) × ((List V) × (List Int))))))) =>
  if (v2 == 27) = true then
    some (arrV .u8 v5 0 32)
  else
    (F_mpi_Put (nilV, v3)).bind fun ((v6, v7) : ((List V) × Int)) =>
    (F_mpi_Put (all v6, v4)).bind fun ((v8, v9) : ((List V) × Int)) =>
      some (all v8)
noncomputable def fn_key_material : Fn := ⟨34, [.v (.st rapi_Key)], .pure (.one (.t (.own 5))) 1, F_key_material⟩
theorem t_key_material : GoodAt Try.prog HH HSP 6 fn_key_material := goodAt_of (ho := HO) (l := [fn_bytes_Clone, fn_mpi_Put]) rfl (hl1 (t_bytes_Clone.up (by decide)) (hl1 (t_mpi_Put.up (by decide)) hl0)) fun x => by kernel_rfl

noncomputable def F_key_isShort : Ps [.v (.lst false 1)] → Option (Rc.I (.pure (.one (.t (.v .bool))) 1)) := fun (v0 : (List V)) =>
  (F_nat_Bits v0).bind fun (v1 : Int) =>
  some (decide (v1 ≤ 16384))
noncomputable def fn_key_isShort : Fn := ⟨60, [.v (.lst false 1)], .pure (.one (.t (.v .bool))) 1, F_key_isShort⟩
theorem t_key_isShort : GoodAt Try.prog HH HSP 3 fn_key_isShort := goodAt_of (ho := HO) (l := [fn_nat_Bits]) rfl (hl1 (t_nat_Bits.up (by decide)) hl0) fun x => by kernel_rfl

noncomputable def F_key_may : Ps [.v (.st rapi_Key)] → Option (Rc.I (.pure (.one (.t (.v .bool))) 1)) := fun ((v0, v1, v2, v3, v4, v5) : (Int × (Int × (Int × ((List V) × ((List V) × (List Int))))))) =>
  (if (v0 != 4) = true then
      some (v0 != 6)
    else
      some (false) : Option Bool).bind fun v6 =>
  if v6 = true then
      some (false)
    else
      if (v2 == 1) = true then
        (if (fitI (fitI v5 0 32) 0 32 == rep 32 0) = true then
            (F_key_isShort v3).bind fun (v7 : Bool) =>
            if v7 = true then
                (F_key_isShort v4).bind fun (v8 : Bool) =>
                some (v8)
              else
                some (false)
          else
            some (false) : Option Bool).bind fun v9 =>
        some (v9)
      else
        if (v2 == 27) = true then
          (if (len v3 == 0) = true then
              some (len v4 == 0)
            else
              some (false) : Option Bool).bind fun v10 =>
          some (v10)
        else
          some (false)
noncomputable def fn_key_may : Fn := ⟨33, [.v (.st rapi_Key)], .pure (.one (.t (.v .bool))) 1, F_key_may⟩
theorem t_key_may : GoodAt Try.prog HH HSP 4 fn_key_may := goodAt_of (ho := HO) (l := [fn_key_isShort]) rfl (hl1 (t_key_isShort.up (by decide)) hl0) fun x => by kernel_rfl

noncomputable def F_key_Emit : Ps [.v (.st rapi_Key)] → Option (Rc.I (.pure (.tup [.t (.own 5), .t (.v (.int .i64))]) 1)) := fun ((v0, v1, v2, v3, v4, v5) : (Int × (Int × (Int × ((List V) × ((List V) × (List Int))))))) =>
  (F_key_may (v0, v1, v2, v3, v4, fitI v5 0 32)).bind fun (v6 : Bool) =>
  if (!v6) = true then
      some ((nilV, 1))
    else
      (F_key_material (v0, v1, v2, v3, v4, fitI v5 0 32)).bind fun (v7 : (List V)) =>
      (F_key_put ([V.int .u8 (wu8 v0)], w64 v1, 4)).bind fun (v8 : (List V)) =>
        if List.length v8 + 1 ≤ 2147483648 then
            (if (v0 == 6) = true then
                (F_key_put (all (v8 ++ [V.int .u8 (wu8 v2)]), len v7, 4)).bind fun (v9 : (List V)) =>
                some (.inl ((v7, v9)))
              else
                some (.inl ((v7, v8 ++ [V.int .u8 (wu8 v2)]))) : Option (((List V) × (List V)) ⊕ ((List V) × Int))).bind fun v10 =>
            match v10 with
              | .inl (v11, v12) =>
                if List.length (all v12) + List.length (all v11) ≤ 2147483648 then
                  some ((all v12 ++ all v11, 0))
                else
                  none
              | .inr (v13, v14) =>
                some ((v13, v14))
          else
            none
noncomputable def fn_key_Emit : Fn := ⟨11, [.v (.st rapi_Key)], .pure (.tup [.t (.own 5), .t (.v (.int .i64))]) 1, F_key_Emit⟩
theorem t_key_Emit : GoodAt Try.prog HH HSP 7 fn_key_Emit := goodAt_of (ho := HO) (l := [fn_key_may, fn_key_material, fn_key_put]) rfl (hl1 (t_key_may.up (by decide)) (hl1 (t_key_material.up (by decide)) (hl1 (t_key_put.up (by decide)) hl0))) fun x => by kernel_rfl

noncomputable def F_key_Image : Ps [.v (.st rapi_Key)] → Option (Rc.I (.pure (.tup [.t (.own 5), .t (.v (.int .i64))]) 1)) := fun ((v0, v1, v2, v3, v4, v5) : (Int × (Int × (Int × ((List V) × ((List V) × (List Int))))))) =>
  (F_key_Emit (v0, v1, v2, v3, v4, fitI v5 0 32)).bind fun ((v6, v7) : ((List V) × Int)) =>
  if (v7 != 0) = true then
      some ((nilV, v7))
    else
      if (v0 == 6) = true then
        (F_key_put ([V.int .u8 155], len v6, 4)).bind fun (v8 : (List V)) =>
        if List.length v8 + List.length (all v6) ≤ 2147483648 then
            some ((v8 ++ all v6, 0))
          else
            none
      else
        (F_key_put ([V.int .u8 153], len v6, 2)).bind fun (v9 : (List V)) =>
        if List.length v9 + List.length (all v6) ≤ 2147483648 then
            some ((v9 ++ all v6, 0))
          else
            none
noncomputable def fn_key_Image : Fn := ⟨32, [.v (.st rapi_Key)], .pure (.tup [.t (.own 5), .t (.v (.int .i64))]) 1, F_key_Image⟩
theorem t_key_Image : GoodAt Try.prog HH HSP 8 fn_key_Image := goodAt_of (ho := HO) (l := [fn_key_Emit, fn_key_put]) rfl (hl1 (t_key_Emit.up (by decide)) (hl1 (t_key_put.up (by decide)) hl0)) fun x => by kernel_rfl

noncomputable def F_key_Same : Ps [.v (.st rapi_Key), .v (.st rapi_Key)] → Option (Rc.I (.pure (.one (.t (.v .bool))) 2)) := fun (((v0, v1, v2, v3, v4, v5), v6, v7, v8, v9, v10, v11) : ((Int × (Int × (Int × ((List V) × ((List V) × (List Int)))))) × (Int × (Int × (Int × ((List V) × ((List V) × (List Int)))))))) =>
  (F_key_Image (v0, v1, v2, v3, v4, fitI v5 0 32)).bind fun ((v12, v13) : ((List V) × Int)) =>
  (F_key_Image (v6, v7, v8, v9, v10, fitI v11 0 32)).bind fun ((v14, v15) : ((List V) × Int)) =>
    (if (v13 == 0) = true then
          if (v15 == 0) = true then
            (F_bytes_Equal (all v12, all v14)).bind fun (v16 : Bool) =>
            some (v16)
          else
            some (false)
        else
          some (false) : Option Bool).bind fun v17 =>
      some (v17)
noncomputable def fn_key_Same : Fn := ⟨14, [.v (.st rapi_Key), .v (.st rapi_Key)], .pure (.one (.t (.v .bool))) 2, F_key_Same⟩
theorem t_key_Same : GoodAt Try.prog HH HSP 9 fn_key_Same := goodAt_of (ho := HO) (l := [fn_key_Image, fn_bytes_Equal]) rfl (hl1 (t_key_Image.up (by decide)) (hl1 (t_bytes_Equal.up (by decide)) hl0)) fun x => by kernel_rfl

noncomputable def F_affiantref04_digit : Ps [.v (.lst true 1), .v (.int .i64)] → Option (Rc.I (.pure (.one (.t (.v (.int .u64)))) 2)) := fun ((v0, v1) : ((List V) × Int)) =>
  if decide (v1 < len v0) = true then
    if 0 ≤ v1 then
      (v0[Int.toNat v1]?).bind fun v2 =>
      (V.int? .u64 v2).bind fun v3 =>
        some (v3)
    else
      none
  else
    some (0)
noncomputable def fn_affiantref04_digit : Fn := ⟨102, [.v (.lst true 1), .v (.int .i64)], .pure (.one (.t (.v (.int .u64)))) 2, F_affiantref04_digit⟩
theorem t_affiantref04_digit : GoodAt Try.prog HH HSP 1 fn_affiantref04_digit := goodAt_of (ho := HO) (l := []) rfl hl0 fun x => by kernel_rfl

noncomputable def F_affiantref04_compare : Ps [.v (.lst true 1), .v (.lst true 1)] → Option (Rc.I (.pure (.one (.t (.v (.int .i64)))) 2)) := fun ((v0, v1) : ((List V) × (List V))) =>
  loopO (σ := ((List V) × ((List V) × (Int × Int)))) (R := Int) (fun (v2, v3, v4, v5) =>
    if decide (v5 ≥ 0) = true then
      (F_affiantref04_digit (v2, v5)).bind fun (v6 : Int) =>
      (F_affiantref04_digit (v3, v5)).bind fun (v7 : Int) =>
        if decide (v6 < v7) = true then
            some (.inr (-1))
          else
            (F_affiantref04_digit (v2, v5)).bind fun (v8 : Int) =>
            (F_affiantref04_digit (v3, v5)).bind fun (v9 : Int) =>
              if decide (v8 > v9) = true then
                  some (.inr (1))
                else
                  some (.inl ((v2, v3, v4, w64 (v5 - 1))))
    else
      some (.inr (0))) ((v0, v1, 0, w64 (List.foldl (fun a b => if b > a then b else a) (len v0) [len v1] - 1)))
noncomputable def fn_affiantref04_compare : Fn := ⟨66, [.v (.lst true 1), .v (.lst true 1)], .pure (.one (.t (.v (.int .i64)))) 2, F_affiantref04_compare⟩
theorem t_affiantref04_compare : GoodAt Try.prog HH HSP 2 fn_affiantref04_compare := goodAt_of (ho := HO) (l := [fn_affiantref04_digit]) rfl (hl1 (t_affiantref04_digit.up (by decide)) hl0) fun x => by kernel_rfl

noncomputable def F_affiantref04_trim : Ps [.v (.lst false 1)] → Option (Rc.I (.pure (.one (.t (.v (.lst false 1)))) 1)) := fun (v0 : (List V)) =>
  loopO (σ := ((List V) × Int)) (R := (List V)) (fun (v1, v2) =>
    (if decide (v2 > 0) = true then
        if 0 ≤ w64 (v2 - 1) then
          (v1[Int.toNat (w64 (v2 - 1))]?).bind fun v3 =>
          (V.int? .u64 v3).bind fun v4 =>
            some (v4 == 0)
        else
          none
      else
        some (false) : Option Bool).bind fun v5 =>
    if v5 = true then
        some (.inl ((v1, w64 (v2 - 1))))
      else
        (if 0 ≤ v2 then
            if 0 ≤ Int.toNat v2 ∧ Int.toNat v2 ≤ List.length v1 then
              some (List.take (Int.toNat v2) (List.drop 0 v1))
            else
              none
          else
            none : Option (List V)).bind fun v6 =>
        some (.inr (v6))) ((v0, len v0))
noncomputable def fn_affiantref04_trim : Fn := ⟨103, [.v (.lst false 1)], .pure (.one (.t (.v (.lst false 1)))) 1, F_affiantref04_trim⟩
theorem t_affiantref04_trim : GoodAt Try.prog HH HSP 1 fn_affiantref04_trim := goodAt_of (ho := HO) (l := []) rfl hl0 fun x => by kernel_rfl

noncomputable def F_affiantref04_Digits : Ps [.v (.lst true 1)] → Option (Rc.I (.pure (.one (.t (.v (.lst false 1)))) 1)) := fun (v0 : (List V)) =>
  loopO (σ := ((List V) × ((List V) × Int))) (R := (List V)) (fun (v1, v2, v3) =>
    if decide (v3 < len v1) = true then
      if 0 ≤ v3 then
        (v1[Int.toNat v3]?).bind fun v4 =>
        (V.int? .u32 v4).bind fun v5 =>
          if 0 ≤ v3 then
              (v1[Int.toNat v3]?).bind fun v6 =>
              (V.int? .u32 v6).bind fun v7 =>
                if List.length (all v2) + 2 ≤ 2147483648 then
                    some (.inl ((v1, all v2 ++ [V.int .u64 (wu64 (Int.tmod v5 65536)), V.int .u64 (wu64 (wu32 (Int.tdiv v7 65536)))], w64 (v3 + 1))))
                  else
                    none
            else
              none
      else
        none
    else
      ((F_affiantref04_trim (all v2)).bind fun (v8 : (List V)) =>
        some (v8) : Option (List V)).bind fun v9 =>
      some (.inr (v9))) ((v0, nilV, 0))
noncomputable def fn_affiantref04_Digits : Fn := ⟨67, [.v (.lst true 1)], .pure (.one (.t (.v (.lst false 1)))) 1, F_affiantref04_Digits⟩
theorem t_affiantref04_Digits : GoodAt Try.prog HH HSP 2 fn_affiantref04_Digits := goodAt_of (ho := HO) (l := [fn_affiantref04_trim]) rfl (hl1 (t_affiantref04_trim.up (by decide)) hl0) fun x => by kernel_rfl

noncomputable def F_affiantref04_Cmp : Ps [.v (.lst true 1), .v (.lst true 1)] → Option (Rc.I (.pure (.one (.t (.v (.int .i64)))) 2)) := fun ((v0, v1) : ((List V) × (List V))) =>
  (F_affiantref04_Digits v0).bind fun (v2 : (List V)) =>
  (F_affiantref04_Digits v1).bind fun (v3 : (List V)) =>
    (F_affiantref04_compare (v2, v3)).bind fun (v4 : Int) =>
      some (v4)
noncomputable def fn_affiantref04_Cmp : Fn := ⟨41, [.v (.lst true 1), .v (.lst true 1)], .pure (.one (.t (.v (.int .i64)))) 2, F_affiantref04_Cmp⟩
theorem t_affiantref04_Cmp : GoodAt Try.prog HH HSP 3 fn_affiantref04_Cmp := goodAt_of (ho := HO) (l := [fn_affiantref04_Digits, fn_affiantref04_compare]) rfl (hl1 (t_affiantref04_Digits.up (by decide)) (hl1 (t_affiantref04_compare.up (by decide)) hl0)) fun x => by kernel_rfl

noncomputable def F_affiantref23_Equal : Ps [.v (.st rapi_Key), .v (.st rapi_Key)] → Option (Rc.I (.pure (.one (.t (.v .bool))) 2)) := fun (((v0, v1, v2, v3, v4, v5), v6, v7, v8, v9, v10, v11) : ((Int × (Int × (Int × ((List V) × ((List V) × (List Int)))))) × (Int × (Int × (Int × ((List V) × ((List V) × (List Int)))))))) =>
  (if (v0 == v6) = true then
      if (v1 == v7) = true then
        if (v2 == v8) = true then
          if (fitI (fitI v5 0 32) 0 32 == fitI (fitI v11 0 32) 0 32) = true then
            (F_affiantref04_Cmp (v3, v9)).bind fun (v12 : Int) =>
            if (v12 == 0) = true then
                (F_affiantref04_Cmp (v4, v10)).bind fun (v13 : Int) =>
                some (v13 == 0)
              else
                some (false)
          else
            some (false)
        else
          some (false)
      else
        some (false)
    else
      some (false) : Option Bool).bind fun v14 =>
  some (v14)
noncomputable def fn_affiantref23_Equal : Fn := ⟨13, [.v (.st rapi_Key), .v (.st rapi_Key)], .pure (.one (.t (.v .bool))) 2, F_affiantref23_Equal⟩
theorem t_affiantref23_Equal : GoodAt Try.prog HH HSP 4 fn_affiantref23_Equal := goodAt_of (ho := HO) (l := [fn_affiantref04_Cmp]) rfl (hl1 (t_affiantref04_Cmp.up (by decide)) hl0) fun x => by kernel_rfl

noncomputable def F_cursor_Cursor_Left : Ps [.nd 90 [.v (.lst false 1), .v (.int .i64)]] → Option (Rc.I (.io (.one (.t (.v (.int .i64)))) [.nd 90 [.v (.lst false 1), .v (.int .i64)]])) := fun ((v0, v1) : ((List V) × Int)) =>
  some ((w64 (len v0 - v1), v0, v1))
noncomputable def fn_cursor_Cursor_Left : Fn := ⟨64, [.nd 90 [.v (.lst false 1), .v (.int .i64)]], .io (.one (.t (.v (.int .i64)))) [.nd 90 [.v (.lst false 1), .v (.int .i64)]], F_cursor_Cursor_Left⟩
theorem t_cursor_Cursor_Left : GoodAt Try.prog HH HSP 1 fn_cursor_Cursor_Left := goodAt_of (ho := HO) (l := []) rfl hl0 fun x => by kernel_rfl

noncomputable def F_nat_trim : Ps [.v (.lst false 1)] → Option (Rc.I (.pure (.one (.t (.v (.lst false 1)))) 1)) := fun (v0 : (List V)) =>
  loopO (σ := ((List V) × Int)) (R := (List V)) (fun (v1, v2) =>
    (if decide (v2 > 0) = true then
        if 0 ≤ w64 (v2 - 1) then
          (v1[Int.toNat (w64 (v2 - 1))]?).bind fun v3 =>
          (V.int? .u32 v3).bind fun v4 =>
            some (v4 == 0)
        else
          none
      else
        some (false) : Option Bool).bind fun v5 =>
    if v5 = true then
        some (.inl ((v1, w64 (v2 - 1))))
      else
        (if 0 ≤ v2 then
            if 0 ≤ v2 then
              if 0 ≤ Int.toNat v2 ∧ Int.toNat v2 = Int.toNat v2 ∧ Int.toNat v2 ≤ List.length v1 then
                some (List.take (Int.toNat v2) (List.drop 0 v1))
              else
                none
            else
              none
          else
            none : Option (List V)).bind fun v6 =>
        some (.inr (v6))) ((v0, len v0))
noncomputable def fn_nat_trim : Fn := ⟨168, [.v (.lst false 1)], .pure (.one (.t (.v (.lst false 1)))) 1, F_nat_trim⟩
theorem t_nat_trim : GoodAt Try.prog HH HSP 1 fn_nat_trim := goodAt_of (ho := HO) (l := []) rfl hl0 fun x => by kernel_rfl

noncomputable def F_nat_Read : Ps [.v (.lst true 1)] → Option (Rc.I (.pure (.one (.t (.v (.lst false 1)))) 1)) := fun (v0 : (List V)) =>
  if 0 ≤ w64 (Int.tdiv (w64 (len v0 + 3)) 4) ∧ w64 (Int.tdiv (w64 (len v0 + 3)) 4) ≤ w64 (Int.tdiv (w64 (len v0 + 3)) 4) ∧ w64 (Int.tdiv (w64 (len v0 + 3)) 4) ≤ 2147483648 then
    loopO (σ := ((List V) × ((List V) × ((List V) × (Int × Int))))) (R := (List V)) (fun (v1, v2, v3, v4, v5) =>
      if decide (v5 < v4) = true then
        if 0 ≤ v5 then
          (v3[Int.toNat v5]?).bind fun v6 =>
          (V.int? .u8 v6).bind fun v7 =>
            if 0 ≤ w64 (Int.tdiv (w64 (w64 (len v1 - 1) - v5)) 4) ∧ w64 (Int.tdiv (w64 (w64 (len v1 - 1) - v5)) 4) < len v2 then
                (v2[0 + Int.toNat (w64 (Int.tdiv (w64 (w64 (len v1 - 1) - v5)) 4))]?).bind fun v8 =>
                ((V.cells v8)[0]?).bind fun v9 =>
                  (V.int? .u32 v9).bind fun v10 =>
                    if w64 (8 * Int.tmod (w64 (w64 (len v1 - 1) - v5)) 4) < 0 then
                        none
                      else
                        if 0 ≤ w64 (Int.tdiv (w64 (w64 (len v1 - 1) - v5)) 4) ∧ w64 (Int.tdiv (w64 (w64 (len v1 - 1) - v5)) 4) < len v2 then
                          (v2[0 + Int.toNat (w64 (Int.tdiv (w64 (w64 (len v1 - 1) - v5)) 4))]?).bind fun v11 =>
                          some (.inl ((v1, List.set v2 (0 + Int.toNat (w64 (Int.tdiv (w64 (w64 (len v1 - 1) - v5)) 4))) (storeEl v11 0 (V.cells (V.int .u32 (wordOr .u32 v10 (wordShl .u32 (wu32 v7) (w64 (8 * Int.tmod (w64 (w64 (len v1 - 1) - v5)) 4))))))), v3, v4, w64 (v5 + 1))))
                        else
                          none
              else
                none
        else
          none
      else
        ((F_nat_trim (all v2)).bind fun (v12 : (List V)) =>
          some (v12) : Option (List V)).bind fun v13 =>
        some (.inr (v13))) ((v0, rep (Int.toNat (w64 (Int.tdiv (w64 (len v0 + 3)) 4))) (V.int .u32 0), v0, len v0, 0))
  else
    none
noncomputable def fn_nat_Read : Fn := ⟨135, [.v (.lst true 1)], .pure (.one (.t (.v (.lst false 1)))) 1, F_nat_Read⟩
theorem t_nat_Read : GoodAt Try.prog HH HSP 2 fn_nat_Read := goodAt_of (ho := HO) (l := [fn_nat_trim]) rfl (hl1 (t_nat_trim.up (by decide)) hl0) fun x => by kernel_rfl

noncomputable def F_cursor_Cursor_Take : Ps [.nd 90 [.v (.lst false 1), .v (.int .i64)], .v (.int .i64)] → Option (Rc.I (.io (.tup [.t (.own 5), .t (.v (.int .i64))]) [.nd 90 [.v (.lst false 1), .v (.int .i64)], .t .dead])) := fun (((v0, v1), v2) : (((List V) × Int) × Int)) =>
  if decide (v2 < 0) = true then
    some (((nilV, 1), (v0, v1), PUnit.unit))
  else
    (F_cursor_Cursor_Left (v0, v1)).bind fun ((v3, v4, v5) : (Int × ((List V) × Int))) =>
    if decide (v2 > v3) = true then
        some (((nilV, 2), (v4, v5), PUnit.unit))
      else
        if 0 ≤ v5 then
          if 0 ≤ w64 (v5 + v2) then
            if Int.toNat v5 ≤ Int.toNat (w64 (v5 + v2)) ∧ Int.toNat (w64 (v5 + v2)) ≤ List.length v4 then
              (if List.length (List.take (Int.toNat (w64 (v5 + v2)) - Int.toNat v5) (List.drop (Int.toNat v5) v4)) ≤ 2147483648 then
                  some (List.take (Int.toNat (w64 (v5 + v2)) - Int.toNat v5) (List.drop (Int.toNat v5) v4))
                else
                  none : Option (List V)).bind fun v6 =>
              some (((all v6, 0), (v4, w64 (v5 + v2)), PUnit.unit))
            else
              none
          else
            none
        else
          none
noncomputable def fn_cursor_Cursor_Take : Fn := ⟨63, [.nd 90 [.v (.lst false 1), .v (.int .i64)], .v (.int .i64)], .io (.tup [.t (.own 5), .t (.v (.int .i64))]) [.nd 90 [.v (.lst false 1), .v (.int .i64)], .t .dead], F_cursor_Cursor_Take⟩
theorem t_cursor_Cursor_Take : GoodAt Try.prog HH HSP 2 fn_cursor_Cursor_Take := goodAt_of (ho := HO) (l := [fn_cursor_Cursor_Left, fn_bytes_Clone]) rfl (hl1 (t_cursor_Cursor_Left.up (by decide)) (hl1 (t_bytes_Clone.up (by decide)) hl0)) fun x => by kernel_rfl

noncomputable def F_cursor_Cursor_Number : Ps [.nd 90 [.v (.lst false 1), .v (.int .i64)], .v (.int .i64)] → Option (Rc.I (.io (.tup [.t (.v (.int .u64)), .t (.v (.int .i64))]) [.nd 90 [.v (.lst false 1), .v (.int .i64)], .t .dead])) := fun (((v0, v1), v2) : (((List V) × Int) × Int)) =>
  (if decide (v2 < 1) = false then
      some (decide (v2 > 8))
    else
      some (true) : Option Bool).bind fun v3 =>
  if v3 = true then
      some (((0, 1), (v0, v1), PUnit.unit))
    else
      (F_cursor_Cursor_Take ((v0, v1), v2)).bind fun (((v4, v5), (v6, v7), v8) : (((List V) × Int) × (((List V) × Int) × Unit))) =>
      loopO (σ := ((List V) × (Int × ((Nat × Nat) × (Int × Int))))) (R := ((Int × Int) × (((List V) × Int) × Unit))) (fun (v9, v10, (v11, v12), v13, v14) =>
          if decide (v14 < v13) = true then
            if 0 ≤ v14 ∧ v14 < (↑v12 : Int) then
              (v9[v11 + Int.toNat v14]?).bind fun v15 =>
              ((V.cells v15)[0]?).bind fun v16 =>
                (V.int? .u8 v16).bind fun v17 =>
                  some (.inl ((v9, wordOr .u64 (wordShl .u64 v10 8) (wu64 v17), (v11, v12), v13, w64 (v14 + 1))))
            else
              none
          else
            some (.inr (((v10, v5), (v6, v7), PUnit.unit)))) ((v4, 0, (0, List.length v4), len v4, 0))
noncomputable def fn_cursor_Cursor_Number : Fn := ⟨37, [.nd 90 [.v (.lst false 1), .v (.int .i64)], .v (.int .i64)], .io (.tup [.t (.v (.int .u64)), .t (.v (.int .i64))]) [.nd 90 [.v (.lst false 1), .v (.int .i64)], .t .dead], F_cursor_Cursor_Number⟩
theorem t_cursor_Cursor_Number : GoodAt Try.prog HH HSP 3 fn_cursor_Cursor_Number := goodAt_of (ho := HO) (l := [fn_cursor_Cursor_Take]) rfl (hl1 (t_cursor_Cursor_Take.up (by decide)) hl0) fun x => by kernel_rfl

noncomputable def F_mpi_take : Ps [.nd 90 [.v (.lst false 1), .v (.int .i64)]] → Option (Rc.I (.io (.tup [.t (.v (.lst false 1)), .t (.v (.int .i64))]) [.nd 90 [.v (.lst false 1), .v (.int .i64)]])) := fun ((v0, v1) : ((List V) × Int)) =>
  (F_cursor_Cursor_Number ((v0, v1), 2)).bind fun (((v2, v3), (v4, v5), v6) : ((Int × Int) × (((List V) × Int) × Unit))) =>
  if (v3 != 0) = true then
      some (((nilV, v3), v4, v5))
    else
      if decide (v2 > 16384) = true then
        some (((nilV, 4), v4, v5))
      else
        (F_cursor_Cursor_Take ((v4, v5), w64 (Int.tdiv (w64 (w64 v2 + 7)) 8))).bind fun (((v7, v8), (v9, v10), v11) : (((List V) × Int) × (((List V) × Int) × Unit))) =>
        if (v8 != 0) = true then
            some (((nilV, v8), v9, v10))
          else
            (F_nat_Read (all v7)).bind fun (v12 : (List V)) =>
            (F_nat_Bits v12).bind fun (v13 : Int) =>
              if (v13 != w64 v2) = true then
                  some (((nilV, 3), v9, v10))
                else
                  some (((v12, 0), v9, v10))
noncomputable def fn_mpi_take : Fn := ⟨101, [.nd 90 [.v (.lst false 1), .v (.int .i64)]], .io (.tup [.t (.v (.lst false 1)), .t (.v (.int .i64))]) [.nd 90 [.v (.lst false 1), .v (.int .i64)]], F_mpi_take⟩
theorem t_mpi_take : GoodAt Try.prog HH HSP 4 fn_mpi_take := goodAt_of (ho := HO) (l := [fn_cursor_Cursor_Number, fn_cursor_Cursor_Take, fn_nat_Read, fn_nat_Bits]) rfl (hl1 (t_cursor_Cursor_Number.up (by decide)) (hl1 (t_cursor_Cursor_Take.up (by decide)) (hl1 (t_nat_Read.up (by decide)) (hl1 (t_nat_Bits.up (by decide)) hl0)))) fun x => by kernel_rfl

noncomputable def F_cursor_Over : Ps [.v (.lst true 1)] → Option (Rc.I (.pure (.one (.nd 90 [.v (.lst false 1), .v (.int .i64)])) 1)) := fun (v0 : (List V)) =>
  (if List.length v0 ≤ 2147483648 then
      some (v0)
    else
      none : Option (List V)).bind fun v1 =>
  some ((v1, 0))
noncomputable def fn_cursor_Over : Fn := ⟨36, [.v (.lst true 1)], .pure (.one (.nd 90 [.v (.lst false 1), .v (.int .i64)])) 1, F_cursor_Over⟩
theorem t_cursor_Over : GoodAt Try.prog HH HSP 2 fn_cursor_Over := goodAt_of (ho := HO) (l := [fn_bytes_Clone]) rfl (hl1 (t_bytes_Clone.up (by decide)) hl0) fun x => by kernel_rfl

noncomputable def F_mpi_All : Ps [.v (.lst true 1), .v (.int .i64)] → Option (Rc.I (.pure (.tup [.t (.own 24), .t (.v (.int .i64))]) 2)) := fun ((v0, v1) : ((List V) × Int)) =>
  (if decide (v1 < 0) = false then
      some (decide (v1 > 10))
    else
      some (true) : Option Bool).bind fun v2 =>
  if v2 = true then
      some ((nilV, 1))
    else
      (F_cursor_Over v0).bind fun ((v3, v4) : ((List V) × Int)) =>
      loopO (σ := ((List V) × (Int × (((List V) × Int) × ((List V) × (Int × Int)))))) (R := ((List V) × Int)) (fun (v5, v6, (v7, v8), v9, v10, v11) =>
          if decide (v11 < v10) = true then
            (F_mpi_take (v7, v8)).bind fun (((v12, v13), v14, v15) : (((List V) × Int) × ((List V) × Int))) =>
            if (v13 != 0) = true then
                some (.inr ((nilV, v13)))
              else
                if List.length (all v9) + 1 ≤ 2147483648 then
                  some (.inl ((v5, v6, (v14, v15), all v9 ++ [V.sl false false 1 v12], v10, w64 (v11 + 1))))
                else
                  none
          else
            ((F_cursor_Cursor_Left (v7, v8)).bind fun ((v16, v17, v18) : (Int × ((List V) × Int))) =>
              if decide (v16 > 0) = true then
                  some ((nilV, 3))
                else
                  some ((all v9, 0)) : Option ((List V) × Int)).bind fun (v19, v20) =>
            some (.inr ((v19, v20)))) ((nilV, 0, (v3, v4), nilV, v1, 0))
noncomputable def fn_mpi_All : Fn := ⟨65, [.v (.lst true 1), .v (.int .i64)], .pure (.tup [.t (.own 24), .t (.v (.int .i64))]) 2, F_mpi_All⟩
theorem t_mpi_All : GoodAt Try.prog HH HSP 5 fn_mpi_All := goodAt_of (ho := HO) (l := [fn_cursor_Over, fn_mpi_take, fn_cursor_Cursor_Left]) rfl (hl1 (t_cursor_Over.up (by decide)) (hl1 (t_mpi_take.up (by decide)) (hl1 (t_cursor_Cursor_Left.up (by decide)) hl0))) fun x => by kernel_rfl

noncomputable def F_key_fill : Ps [.v (.st rapi_Key), .v (.lst true 1)] → Option (Rc.I (.pure (.tup [.t (.v (.st rapi_Key)), .t (.v (.int .i64))]) 2)) := fun (((v0, v1, v2, v3, v4, v5), v6) : ((Int × (Int × (Int × ((List V) × ((List V) × (List Int)))))) × (List V))) =>
  if (v2 == 27) = true then
    if (len v6 != 32) = true then
      some (((0, 0, 0, nilV, nilV, rep 32 0), 3))
    else
      if 32 ≤ List.length v6 then
        (intsOf .u8 32 v6).bind fun v7 =>
        some (((v0, v1, v2, v3, v4, fitI (fitI v7 0 32) 0 32), 0))
      else
        none
  else
    (F_mpi_All (v6, 2)).bind fun ((v8, v9) : ((List V) × Int)) =>
    if (v9 != 0) = true then
        some (((0, 0, 0, nilV, nilV, rep 32 0), v9))
      else
        if idI 0 ≤ 0 ∧ 0 < len v8 then
          (v8[0]?).bind fun v10 =>
          ((V.cells v10)[0]?).bind fun v11 =>
            (V.lst? false 1 v11).bind fun v12 =>
              if idI 0 ≤ 1 ∧ 1 < len v8 then
                  (v8[1]?).bind fun v13 =>
                  ((V.cells v13)[0]?).bind fun v14 =>
                    (V.lst? false 1 v14).bind fun v15 =>
                      some (((v0, v1, v2, v12, v15, fitI v5 0 32), 0))
                else
                  none
        else
          none
noncomputable def fn_key_fill : Fn := ⟨39, [.v (.st rapi_Key), .v (.lst true 1)], .pure (.tup [.t (.v (.st rapi_Key)), .t (.v (.int .i64))]) 2, F_key_fill⟩
theorem t_key_fill : GoodAt Try.prog HH HSP 6 fn_key_fill := goodAt_of (ho := HO) (l := [fn_mpi_All]) rfl (hl1 (t_mpi_All.up (by decide)) hl0) fun x => by kernel_rfl

noncomputable def F_cursor_Cursor_Rest : Ps [.nd 90 [.v (.lst false 1), .v (.int .i64)]] → Option (Rc.I (.io (.one (.t (.own 5))) [.nd 90 [.v (.lst false 1), .v (.int .i64)]])) := fun ((v0, v1) : ((List V) × Int)) =>
  (F_cursor_Cursor_Left (v0, v1)).bind fun ((v2, v3, v4) : (Int × ((List V) × Int))) =>
  (F_cursor_Cursor_Take ((v3, v4), v2)).bind fun (((v5, v6), (v7, v8), v9) : (((List V) × Int) × (((List V) × Int) × Unit))) =>
    some ((all v5, v7, v8))
noncomputable def fn_cursor_Cursor_Rest : Fn := ⟨40, [.nd 90 [.v (.lst false 1), .v (.int .i64)]], .io (.one (.t (.own 5))) [.nd 90 [.v (.lst false 1), .v (.int .i64)]], F_cursor_Cursor_Rest⟩
theorem t_cursor_Cursor_Rest : GoodAt Try.prog HH HSP 3 fn_cursor_Cursor_Rest := goodAt_of (ho := HO) (l := [fn_cursor_Cursor_Left, fn_cursor_Cursor_Take]) rfl (hl1 (t_cursor_Cursor_Left.up (by decide)) (hl1 (t_cursor_Cursor_Take.up (by decide)) hl0)) fun x => by kernel_rfl

noncomputable def F_key_size : Ps [.nd 90 [.v (.lst false 1), .v (.int .i64)], .v (.int .i64)] → Option (Rc.I (.io (.one (.t (.v (.int .i64)))) [.nd 90 [.v (.lst false 1), .v (.int .i64)], .t .dead])) := fun (((v0, v1), v2) : (((List V) × Int) × Int)) =>
  if (v2 != 6) = true then
    some ((0, (v0, v1), PUnit.unit))
  else
    (F_cursor_Cursor_Number ((v0, v1), 4)).bind fun (((v3, v4), (v5, v6), v7) : ((Int × Int) × (((List V) × Int) × Unit))) =>
    if (v4 == 0) = true then
        (F_cursor_Cursor_Left (v5, v6)).bind fun ((v8, v9, v10) : (Int × ((List V) × Int))) =>
        if (v3 != wu64 v8) = true then
            some ((3, (v9, v10), PUnit.unit))
          else
            some ((v4, (v9, v10), PUnit.unit))
      else
        some ((v4, (v5, v6), PUnit.unit))
noncomputable def fn_key_size : Fn := ⟨38, [.nd 90 [.v (.lst false 1), .v (.int .i64)], .v (.int .i64)], .io (.one (.t (.v (.int .i64)))) [.nd 90 [.v (.lst false 1), .v (.int .i64)], .t .dead], F_key_size⟩
theorem t_key_size : GoodAt Try.prog HH HSP 4 fn_key_size := goodAt_of (ho := HO) (l := [fn_cursor_Cursor_Number, fn_cursor_Cursor_Left]) rfl (hl1 (t_cursor_Cursor_Number.up (by decide)) (hl1 (t_cursor_Cursor_Left.up (by decide)) hl0)) fun x => by kernel_rfl

noncomputable def F_key_Parse : Ps [.v (.lst true 1)] → Option (Rc.I (.pure (.tup [.t (.v (.st rapi_Key)), .t (.v (.int .i64))]) 1)) := fun (v0 : (List V)) =>
  (F_cursor_Over v0).bind fun ((v1, v2) : ((List V) × Int)) =>
  (F_cursor_Cursor_Number ((v1, v2), 1)).bind fun (((v3, v4), (v5, v6), v7) : ((Int × Int) × (((List V) × Int) × Unit))) =>
    if (v4 != 0) = true then
        some (((0, 0, 0, nilV, nilV, rep 32 0), v4))
      else
        (if (v3 != 4) = true then
            some (v3 != 6)
          else
            some (false) : Option Bool).bind fun v8 =>
        if v8 = true then
            some (((0, 0, 0, nilV, nilV, rep 32 0), 3))
          else
            (F_cursor_Cursor_Number ((v5, v6), 4)).bind fun (((v9, v10), (v11, v12), v13) : ((Int × Int) × (((List V) × Int) × Unit))) =>
            if (v10 != 0) = true then
                some (((0, 0, 0, nilV, nilV, rep 32 0), v10))
              else
                (F_cursor_Cursor_Number ((v11, v12), 1)).bind fun (((v14, v15), (v16, v17), v18) : ((Int × Int) × (((List V) × Int) × Unit))) =>
                if (v15 != 0) = true then
                    some (((0, 0, 0, nilV, nilV, rep 32 0), v15))
                  else
                    (if (w64 v14 != 1) = true then
                        some (w64 v14 != 27)
                      else
                        some (false) : Option Bool).bind fun v19 =>
                    if v19 = true then
                        some (((0, 0, 0, nilV, nilV, rep 32 0), 9))
                      else
                        (F_key_size ((v16, v17), w64 v3)).bind fun ((v20, (v21, v22), v23) : (Int × (((List V) × Int) × Unit))) =>
                        if (v20 != 0) = true then
                            some (((0, 0, 0, nilV, nilV, rep 32 0), v20))
                          else
                            (F_cursor_Cursor_Rest (v21, v22)).bind fun ((v24, v25, v26) : ((List V) × ((List V) × Int))) =>
                            (F_key_fill ((w64 v3, wu32 v9, w64 v14, nilV, nilV, rep 32 0), all v24)).bind fun (((v27, v28, v29, v30, v31, v32), v33) : ((Int × (Int × (Int × ((List V) × ((List V) × (List Int)))))) × Int)) =>
                              some (((v27, v28, v29, v30, v31, fitI v32 0 32), v33))
noncomputable def fn_key_Parse : Fn := ⟨12, [.v (.lst true 1)], .pure (.tup [.t (.v (.st rapi_Key)), .t (.v (.int .i64))]) 1, F_key_Parse⟩
theorem t_key_Parse : GoodAt Try.prog HH HSP 7 fn_key_Parse := goodAt_of (ho := HO) (l := [fn_cursor_Over, fn_cursor_Cursor_Number, fn_key_size, fn_cursor_Cursor_Rest, fn_key_fill]) rfl (hl1 (t_cursor_Over.up (by decide)) (hl1 (t_cursor_Cursor_Number.up (by decide)) (hl1 (t_key_size.up (by decide)) (hl1 (t_cursor_Cursor_Rest.up (by decide)) (hl1 (t_key_fill.up (by decide)) hl0))))) fun x => by kernel_rfl

noncomputable def F_affiantlaw23_alive : Ps [] → Option (Rc.I (.pure (.one (.t (.v .bool))) 0)) := fun (v0 : Unit) =>
  (F_key_Image (4, 0, 27, nilV, nilV, rep 32 0)).bind fun ((v1, v2) : ((List V) × Int)) =>
  (F_key_Parse [V.int .u8 3]).bind fun (((v3, v4, v5, v6, v7, v8), v9) : ((Int × (Int × (Int × ((List V) × ((List V) × (List Int)))))) × Int)) =>
    (if (v2 == 0) = true then
          if (len v1 == 41) = true then
            if idN 0 ≤ 4 ∧ 4 ≤ List.length v1 then
              (unbytes (List.take 4 (List.drop 0 v1))).bind fun v10 =>
              if (v10 == by8 [153, 0, 38, 4]) = true then
                  some (v9 == 3)
                else
                  some (false)
            else
              none
          else
            some (false)
        else
          some (false) : Option Bool).bind fun v11 =>
      some (v11)
noncomputable def fn_affiantlaw23_alive : Fn := ⟨10, [], .pure (.one (.t (.v .bool))) 0, F_affiantlaw23_alive⟩
theorem t_affiantlaw23_alive : GoodAt Try.prog HH HSP 9 fn_affiantlaw23_alive := goodAt_of (ho := HO) (l := [fn_key_Image, fn_key_Parse]) rfl (hl1 (t_key_Image.up (by decide)) (hl1 (t_key_Parse.up (by decide)) hl0)) fun x => by kernel_rfl

noncomputable def F_affiantref23_Small : Ps [.v (.st rapi_Key)] → Option (Rc.I (.pure (.one (.t (.v .bool))) 1)) := fun ((v0, v1, v2, v3, v4, v5) : (Int × (Int × (Int × ((List V) × ((List V) × (List Int))))))) =>
  (if decide (len v3 ≤ 520) = true then
      some (decide (len v4 ≤ 520))
    else
      some (false) : Option Bool).bind fun v6 =>
  some (v6)
noncomputable def fn_affiantref23_Small : Fn := ⟨9, [.v (.st rapi_Key)], .pure (.one (.t (.v .bool))) 1, F_affiantref23_Small⟩
theorem t_affiantref23_Small : GoodAt Try.prog HH HSP 1 fn_affiantref23_Small := goodAt_of (ho := HO) (l := []) rfl hl0 fun x => by kernel_rfl

noncomputable def F_affiantlaw23_KeyBack : Ps [.v (.st rapi_Key)] → Option (Rc.I (.pure (.one (.t (.v .bool))) 1)) := fun ((v0, v1, v2, v3, v4, v5) : (Int × (Int × (Int × ((List V) × ((List V) × (List Int))))))) =>
  (F_affiantref23_Small (v0, v1, v2, v3, v4, fitI v5 0 32)).bind fun (v6 : Bool) =>
  if (!v6) = true then
      (F_affiantlaw23_alive PUnit.unit).bind fun (v7 : Bool) =>
      some (v7)
    else
      (F_key_Emit (v0, v1, v2, v3, v4, fitI v5 0 32)).bind fun ((v8, v9) : ((List V) × Int)) =>
      if (v9 != 0) = true then
          ((F_affiantlaw23_alive PUnit.unit).bind fun (v10 : Bool) =>
            if v10 = true then
                if (v9 == 1) = true then
                  some (len v8 == 0)
                else
                  some (false)
              else
                some (false) : Option Bool).bind fun v11 =>
          some (v11)
        else
          if (len v8 == 0) = true then
            some (false)
          else
            (F_key_Parse (all v8)).bind fun (((v12, v13, v14, v15, v16, v17), v18) : ((Int × (Int × (Int × ((List V) × ((List V) × (List Int)))))) × Int)) =>
            if 0 + List.length (all v8) ≤ 2147483648 then
                if List.length (all (all v8)) + 1 ≤ 2147483648 then
                  (F_key_Parse (all (all (all v8) ++ [V.int .u8 0]))).bind fun (((v19, v20, v21, v22, v23, v24), v25) : ((Int × (Int × (Int × ((List V) × ((List V) × (List Int)))))) × Int)) =>
                  if 0 ≤ w64 (len v8 - 1) then
                      if 0 ≤ Int.toNat (w64 (len v8 - 1)) ∧ Int.toNat (w64 (len v8 - 1)) ≤ List.length v8 then
                        (F_key_Parse (List.take (Int.toNat (w64 (len v8 - 1))) (List.drop 0 v8))).bind fun (((v26, v27, v28, v29, v30, v31), v32) : ((Int × (Int × (Int × ((List V) × ((List V) × (List Int)))))) × Int)) =>
                        ((F_affiantlaw23_alive PUnit.unit).bind fun (v33 : Bool) =>
                            if v33 = true then
                                if (v18 == 0) = true then
                                  (F_affiantref23_Equal ((v0, v1, v2, v3, v4, fitI v5 0 32), v12, v13, v14, v15, v16, fitI v17 0 32)).bind fun (v34 : Bool) =>
                                  if v34 = true then
                                      (F_key_Same ((v0, v1, v2, v3, v4, fitI v5 0 32), v12, v13, v14, v15, v16, fitI v17 0 32)).bind fun (v35 : Bool) =>
                                      if v35 = true then
                                          if (v25 == 3) = true then
                                            some (v32 != 0)
                                          else
                                            some (false)
                                        else
                                          some (false)
                                    else
                                      some (false)
                                else
                                  some (false)
                              else
                                some (false) : Option Bool).bind fun v36 =>
                          some (v36)
                      else
                        none
                    else
                      none
                else
                  none
              else
                none
noncomputable def fn_affiantlaw23_KeyBack : Fn := ⟨3, [.v (.st rapi_Key)], .pure (.one (.t (.v .bool))) 1, F_affiantlaw23_KeyBack⟩
theorem t_affiantlaw23_KeyBack : GoodAt Try.prog HH HSP 10 fn_affiantlaw23_KeyBack := goodAt_of (ho := HO) (l := [fn_affiantref23_Small, fn_affiantlaw23_alive, fn_key_Emit, fn_key_Parse, fn_affiantref23_Equal, fn_key_Same]) rfl (hl1 (t_affiantref23_Small.up (by decide)) (hl1 (t_affiantlaw23_alive.up (by decide)) (hl1 (t_key_Emit.up (by decide)) (hl1 (t_key_Parse.up (by decide)) (hl1 (t_affiantref23_Equal.up (by decide)) (hl1 (t_key_Same.up (by decide)) hl0)))))) fun x => by kernel_rfl


end Go.Proofs.Ytffofdfikmpanaa.A
