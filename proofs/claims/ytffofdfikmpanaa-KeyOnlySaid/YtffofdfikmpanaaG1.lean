/- What the program's functions come to. Conditions: none. -/
import Derived.Test.YtffofdfikmpanaaLE
import Derived.Test.YtffofdfikmpanaaChecked
set_option linter.unusedVariables false
set_option linter.unusedSimpArgs false
set_option linter.constructorNameAsVariable false
set_option linter.unusedSectionVars false

namespace Go.Proofs.Ytffofdfikmpanaa.A
open Go Go.Proofs
set_option maxRecDepth 100000
noncomputable def HH : Hints := { ht := fun f => match Try.prog.funcs[f]? with | some fn => funcHTz (match f with | 168 => [2] | 135 => [2] | 101 => [2] | 31 => [2000004] | 103 => [2] | 67 => [2] | _ => []) fn | none => .z, mode := fun f k => match f, k with | 109, 0 => 2 | 73, 0 => 2 | 168, 0 => 2 | 134, 0 => 2 | 100, 0 => 2 | 61, 0 => 2 | 61, 1 => 2 | 60, 0 => 2 | 103, 0 => 2 | _, _ => 0, give := fun f d => match f with | 63 => [4].contains d | 65 => [4].contains d | 40 => [2].contains d | 62 => [6].contains d | 35 => [6].contains d | 133 => [4].contains d | 100 => [2].contains d | 61 => [4].contains d | 34 => [2].contains d | 11 => [2].contains d | 32 => [2].contains d | 166 => [6].contains d | 157 => [6].contains d | 156 => [2].contains d | 222 => [2].contains d | 218 => [2].contains d | 214 => [2].contains d | 59 => [4].contains d | 30 => [2].contains d | _ => false, same := fun f => false, raw := fun t => [].contains t, iter := fun f caps => match f, caps with | 146, [.ref _ [.sl _ _ _ es]] => downItems .u32 es | _, _ => none, mv := fun f d => match f with | 215 => [31].contains d | 219 => [31].contains d | 223 => [31].contains d | _ => false }
noncomputable def HO : Ho := { item := fun f => match f with | 146 => [.int .i64, .int .u32] | _ => [], bigT := fun t => [25, 140, 165, 182, 197, 201, 204].contains t, bigF := fun f i => match f with | 39 => [17].contains i | 33 => [16, 17].contains i | 190 => [0, 11, 71].contains i | 189 => [1].contains i | 164 => [1, 14, 16, 17].contains i | 163 => [8].contains i | 188 => [0, 11, 71].contains i | 187 => [1].contains i | 160 => [1, 14, 16, 17].contains i | 159 => [8].contains i | 184 => [0, 7, 50].contains i | 155 => [1, 13, 14].contains i | 154 => [8].contains i | 13 => [26, 28].contains i | _ => false, nodeR := fun t => match t with | 54 => some [.arr .u8 8] | 80 => some [.arr .u64 4] | 81 => some [.arr .u64 4] | 82 => some [.arr .u64 4, .arr .u64 4] | 83 => some [.arr .u64 4, .arr .u64 4] | 142 => some [.arr .u64 8] | 162 => some [.arr .u32 5] | 172 => some [.arr .u32 8] | 196 => some [.arr .u32 4] | _ => none }
noncomputable def HSP : Told := fun f => match f with | 51 => some (fun args => match args with | [.v (.sl true false 1 es)] => if es.length ≤ 2147483648 then some (.own 5 es, [.dead]) else none | _ => none) | _ => none
noncomputable def F_bytes_Clone : Ps [.v (.lst true 1)] → Option (Rc.I (.pure (.one (.t (.own 5))) 1)) := fun l => if l.length ≤ 2147483648 then some l else none
noncomputable def fn_bytes_Clone : Fn := ⟨51, [.v (.lst true 1)], .pure (.one (.t (.own 5))) 1, F_bytes_Clone⟩
theorem t_bytes_Clone : GoodAt Try.prog HH HSP 1 fn_bytes_Clone := goodAt_told rfl fun (x : List V) y h => by have h : (if x.length ≤ 2147483648 then some x else none) = some y := h; split at h <;> first | (rename_i hx; cases h; exact if_pos hx) | cases h
def INL : FuncId → Bool := fun f => [97, 98, 99, 129, 130, 132, 161, 165].contains f
theorem INL_told (f : FuncId) (h : INL f = true) : HSP f = none := by
  have hm : f ∈ ([97, 98, 99, 129, 130, 132, 161, 165] : List Nat) := List.contains_iff_mem.1 h
  simp only [List.mem_cons, List.mem_nil_iff, or_false] at hm
  rcases hm with rfl | rfl | rfl | rfl | rfl | rfl | rfl | rfl <;> rfl
@[reducible] def rapi_Key : List Cc := [.int .i64, .int .u32, .int .i64, .lst false 1, .lst false 1, .arr .u8 32]
noncomputable def F_cursor_Cursor_Left : Ps [.nd 90 [.v (.lst false 1), .v (.int .i64)]] → Option (Rc.I (.io (.one (.t (.v (.int .i64)))) [.nd 90 [.v (.lst false 1), .v (.int .i64)]])) := fun ((v0, v1) : ((List V) × Int)) =>
  some ((w64 (len v0 - v1), v0, v1))
noncomputable def fn_cursor_Cursor_Left : Fn := ⟨64, [.nd 90 [.v (.lst false 1), .v (.int .i64)]], .io (.one (.t (.v (.int .i64)))) [.nd 90 [.v (.lst false 1), .v (.int .i64)]], F_cursor_Cursor_Left⟩
theorem t_cursor_Cursor_Left : GoodAt Try.prog HH HSP 1 fn_cursor_Cursor_Left := goodAt_of (ho := HO) (l := []) rfl hl0 fun x => by kernel_rfl

noncomputable def F_math_bits_Len32 : Ps [.v (.int .u32)] → Option (Rc.I (.pure (.one (.t (.v (.int .i64)))) 1)) := fun (v0 : Int) =>
  (if decide (v0 ≥ 65536) = true then
      some (.inl ((wordShr .u32 v0 16, 16)))
    else
      some (.inl ((v0, 0))) : Option ((Int × Int) ⊕ Int)).bind fun v1 =>
  match v1 with
    | .inl (v2, v3) =>
      (if decide (v2 ≥ 256) = true then
          some (.inl ((wordShr .u32 v2 8, w64 (v3 + 8))))
        else
          some (.inl ((v2, v3))) : Option ((Int × Int) ⊕ Int)).bind fun v4 =>
      match v4 with
        | .inl (v5, v6) =>
          if 0 ≤ wu8 v5 then
            ((List.append (List.append (by8 [0, 1, 2, 2, 3, 3, 3, 3, 4, 4, 4, 4, 4, 4, 4, 4, 5, 5, 5, 5, 5, 5, 5, 5, 5, 5, 5, 5, 5, 5, 5, 5, 6, 6, 6, 6, 6, 6, 6, 6, 6, 6, 6, 6, 6, 6, 6, 6, 6, 6, 6, 6, 6, 6, 6, 6, 6, 6, 6, 6, 6, 6, 6, 6]) (by8 [7, 7, 7, 7, 7, 7, 7, 7, 7, 7, 7, 7, 7, 7, 7, 7, 7, 7, 7, 7, 7, 7, 7, 7, 7, 7, 7, 7, 7, 7, 7, 7, 7, 7, 7, 7, 7, 7, 7, 7, 7, 7, 7, 7, 7, 7, 7, 7, 7, 7, 7, 7, 7, 7, 7, 7, 7, 7, 7, 7, 7, 7, 7, 7])) (List.append (by8 [8, 8, 8, 8, 8, 8, 8, 8, 8, 8, 8, 8, 8, 8, 8, 8, 8, 8, 8, 8, 8, 8, 8, 8, 8, 8, 8, 8, 8, 8, 8, 8, 8, 8, 8, 8, 8, 8, 8, 8, 8, 8, 8, 8, 8, 8, 8, 8, 8, 8, 8, 8, 8, 8, 8, 8, 8, 8, 8, 8, 8, 8, 8, 8]) (by8 [8, 8, 8, 8, 8, 8, 8, 8, 8, 8, 8, 8, 8, 8, 8, 8, 8, 8, 8, 8, 8, 8, 8, 8, 8, 8, 8, 8, 8, 8, 8, 8, 8, 8, 8, 8, 8, 8, 8, 8, 8, 8, 8, 8, 8, 8, 8, 8, 8, 8, 8, 8, 8, 8, 8, 8, 8, 8, 8, 8, 8, 8, 8, 8])))[Int.toNat (wu8 v5)]?).bind fun v7 =>
            some (w64 (v6 + w64 (↑(UInt8.toNat v7) : Int)))
          else
            none
        | .inr v8 =>
          some (v8)
    | .inr v9 =>
      some (v9)
noncomputable def fn_math_bits_Len32 : Fn := ⟨110, [.v (.int .u32)], .pure (.one (.t (.v (.int .i64)))) 1, F_math_bits_Len32⟩
theorem t_math_bits_Len32 : GoodAt Try.prog HH HSP 1 fn_math_bits_Len32 := goodAt_of (ho := HO) (l := []) rfl hl0 fun x => by kernel_rfl

noncomputable def F_nat_down : Ps [.v (.lst false 1)] → Option (Rc.I (.pure (.one (.t (.v (.clo1 146 (.lst false 1))))) 1)) := fun (v0 : (List V)) =>
  some (v0)
noncomputable def fn_nat_down : Fn := ⟨109, [.v (.lst false 1)], .pure (.one (.t (.v (.clo1 146 (.lst false 1))))) 1, F_nat_down⟩
theorem t_nat_down : GoodAt Try.prog HH HSP 1 fn_nat_down := goodAt_of (ho := HO) (l := []) rfl hl0 fun x => by kernel_rfl

noncomputable def F_nat_Bits : Ps [.v (.lst false 1)] → Option (Rc.I (.pure (.one (.t (.v (.int .i64)))) 1)) := fun (v0 : (List V)) =>
  (F_nat_down v0 : Option (List V)).bind fun (v1 : (List V)) =>
  (downItems .u32 v1).bind fun v2 =>
    loopO (σ := ((List (List V)) × (Int × (List V)))) (R := Int) (fun (v3, v4, v5) =>
        match v3 with
        | [] =>
          some (.inr (0))
        | v6 :: v7 =>
          (v6[0]?).bind fun v8 =>
          (V.int? .i64 v8).bind fun v9 =>
            (v6[1]?).bind fun v10 =>
              (V.int? .u32 v10).bind fun v11 =>
                if List.length v6 = 2 then
                    if (v11 != 0) = true then
                      (F_math_bits_Len32 v11 : Option Int).bind fun (v12 : Int) =>
                      some (.inr (w64 (w64 (32 * v9) + v12)))
                    else
                      some (.inl ((v7, v4, v5)))
                  else
                    none) ((v2, 0, v1))
noncomputable def fn_nat_Bits : Fn := ⟨73, [.v (.lst false 1)], .pure (.one (.t (.v (.int .i64)))) 1, F_nat_Bits⟩
theorem t_nat_Bits : GoodAt Try.prog HH HSP 2 fn_nat_Bits := goodAt_of (ho := HO) (l := [fn_nat_down, fn_math_bits_Len32]) rfl (hl1 (t_nat_down.up (by decide)) (hl1 (t_math_bits_Len32.up (by decide)) hl0)) fun x => by kernel_rfl

noncomputable def F_nat_trim : Ps [.v (.lst false 1)] → Option (Rc.I (.pure (.one (.t (.v (.lst false 1)))) 1)) := fun (v0 : (List V)) =>
  loopO (σ := ((List V) × Int)) (R := (List V)) (fun (v1, v2) =>
    (if decide (v2 > 0) = true then
        if 0 ≤ w64 (v2 - 1) then
          (v1[Int.toNat (w64 (v2 - 1))]?).bind fun v3 =>
          (V.int? .u32 v3).bind fun v4 =>
            some (v4 == 0)
        else
          none
      else
        some (false) : Option Bool).bind fun v5 =>
    if v5 = true then
        some (.inl ((v1, w64 (v2 - 1))))
      else
        (if 0 ≤ v2 then
            if 0 ≤ v2 then
              if 0 ≤ Int.toNat v2 ∧ Int.toNat v2 = Int.toNat v2 ∧ Int.toNat v2 ≤ List.length v1 then
                some (List.take (Int.toNat v2) (List.drop 0 v1))
              else
                none
            else
              none
          else
            none : Option (List V)).bind fun v6 =>
        some (.inr (v6))) ((v0, len v0))
noncomputable def fn_nat_trim : Fn := ⟨168, [.v (.lst false 1)], .pure (.one (.t (.v (.lst false 1)))) 1, F_nat_trim⟩
theorem t_nat_trim : GoodAt Try.prog HH HSP 1 fn_nat_trim := goodAt_of (ho := HO) (l := []) rfl hl0 fun x => by kernel_rfl

noncomputable def F_nat_Read : Ps [.v (.lst true 1)] → Option (Rc.I (.pure (.one (.t (.v (.lst false 1)))) 1)) := fun (v0 : (List V)) =>
  if 0 ≤ w64 (Int.tdiv (w64 (len v0 + 3)) 4) ∧ w64 (Int.tdiv (w64 (len v0 + 3)) 4) ≤ w64 (Int.tdiv (w64 (len v0 + 3)) 4) ∧ w64 (Int.tdiv (w64 (len v0 + 3)) 4) ≤ 2147483648 then
    loopO (σ := ((List V) × ((List V) × ((List V) × (Int × Int))))) (R := (List V)) (fun (v1, v2, v3, v4, v5) =>
      if decide (v5 < v4) = true then
        if 0 ≤ v5 then
          (v3[Int.toNat v5]?).bind fun v6 =>
          (V.int? .u8 v6).bind fun v7 =>
            if 0 ≤ w64 (Int.tdiv (w64 (w64 (len v1 - 1) - v5)) 4) ∧ w64 (Int.tdiv (w64 (w64 (len v1 - 1) - v5)) 4) < len v2 then
                (v2[0 + Int.toNat (w64 (Int.tdiv (w64 (w64 (len v1 - 1) - v5)) 4))]?).bind fun v8 =>
                ((V.cells v8)[0]?).bind fun v9 =>
                  (V.int? .u32 v9).bind fun v10 =>
                    if w64 (8 * Int.tmod (w64 (w64 (len v1 - 1) - v5)) 4) < 0 then
                        none
                      else
                        if 0 ≤ w64 (Int.tdiv (w64 (w64 (len v1 - 1) - v5)) 4) ∧ w64 (Int.tdiv (w64 (w64 (len v1 - 1) - v5)) 4) < len v2 then
                          (v2[0 + Int.toNat (w64 (Int.tdiv (w64 (w64 (len v1 - 1) - v5)) 4))]?).bind fun v11 =>
                          some (.inl ((v1, List.set v2 (0 + Int.toNat (w64 (Int.tdiv (w64 (w64 (len v1 - 1) - v5)) 4))) (storeEl v11 0 [V.int .u32 (wordOr .u32 v10 (wordShl .u32 (wu32 v7) (w64 (8 * Int.tmod (w64 (w64 (len v1 - 1) - v5)) 4))))]), v3, v4, w64 (v5 + 1))))
                        else
                          none
              else
                none
        else
          none
      else
        ((F_nat_trim (all v2) : Option (List V)).bind fun (v12 : (List V)) =>
          some (v12) : Option (List V)).bind fun v13 =>
        some (.inr (v13))) ((v0, rep (Int.toNat (w64 (Int.tdiv (w64 (len v0 + 3)) 4))) (V.int .u32 0), v0, len v0, 0))
  else
    none
noncomputable def fn_nat_Read : Fn := ⟨135, [.v (.lst true 1)], .pure (.one (.t (.v (.lst false 1)))) 1, F_nat_Read⟩
theorem t_nat_Read : GoodAt Try.prog HH HSP 2 fn_nat_Read := goodAt_of (ho := HO) (l := [fn_nat_trim]) rfl (hl1 (t_nat_trim.up (by decide)) hl0) fun x => by kernel_rfl

noncomputable def F_cursor_Cursor_Take : Ps [.nd 90 [.v (.lst false 1), .v (.int .i64)], .v (.int .i64)] → Option (Rc.I (.io (.tup [.t (.own 5), .t (.v (.int .i64))]) [.nd 90 [.v (.lst false 1), .v (.int .i64)], .t .dead])) := fun (((v0, v1), v2) : (((List V) × Int) × Int)) =>
  if decide (v2 < 0) = true then
    some (((nilV, 1), (v0, v1), PUnit.unit))
  else
    (F_cursor_Cursor_Left (v0, v1) : Option (Int × ((List V) × Int))).bind fun ((v3, v4, v5) : (Int × ((List V) × Int))) =>
    if decide (v2 > v3) = true then
        some (((nilV, 2), (v4, v5), PUnit.unit))
      else
        if 0 ≤ v5 then
          if 0 ≤ w64 (v5 + v2) then
            if Int.toNat v5 ≤ Int.toNat (w64 (v5 + v2)) ∧ Int.toNat (w64 (v5 + v2)) ≤ List.length v4 then
              (if List.length (List.take (Int.toNat (w64 (v5 + v2)) - Int.toNat v5) (List.drop (Int.toNat v5) v4)) ≤ 2147483648 then
                  some (List.take (Int.toNat (w64 (v5 + v2)) - Int.toNat v5) (List.drop (Int.toNat v5) v4))
                else
                  none : Option (List V)).bind fun v6 =>
              some (((all v6, 0), (v4, w64 (v5 + v2)), PUnit.unit))
            else
              none
          else
            none
        else
          none
noncomputable def fn_cursor_Cursor_Take : Fn := ⟨63, [.nd 90 [.v (.lst false 1), .v (.int .i64)], .v (.int .i64)], .io (.tup [.t (.own 5), .t (.v (.int .i64))]) [.nd 90 [.v (.lst false 1), .v (.int .i64)], .t .dead], F_cursor_Cursor_Take⟩
theorem t_cursor_Cursor_Take : GoodAt Try.prog HH HSP 2 fn_cursor_Cursor_Take := goodAt_of (ho := HO) (l := [fn_cursor_Cursor_Left, fn_bytes_Clone]) rfl (hl1 (t_cursor_Cursor_Left.up (by decide)) (hl1 (t_bytes_Clone.up (by decide)) hl0)) fun x => by kernel_rfl

noncomputable def F_cursor_Cursor_Number : Ps [.nd 90 [.v (.lst false 1), .v (.int .i64)], .v (.int .i64)] → Option (Rc.I (.io (.tup [.t (.v (.int .u64)), .t (.v (.int .i64))]) [.nd 90 [.v (.lst false 1), .v (.int .i64)], .t .dead])) := fun (((v0, v1), v2) : (((List V) × Int) × Int)) =>
  (if decide (v2 < 1) = false then
      some (decide (v2 > 8))
    else
      some (true) : Option Bool).bind fun v3 =>
  if v3 = true then
      some (((0, 1), (v0, v1), PUnit.unit))
    else
      (F_cursor_Cursor_Take ((v0, v1), v2) : Option (((List V) × Int) × (((List V) × Int) × Unit))).bind fun (((v4, v5), (v6, v7), v8) : (((List V) × Int) × (((List V) × Int) × Unit))) =>
      loopO (σ := ((List V) × (Int × ((Nat × Nat) × (Int × Int))))) (R := ((Int × Int) × (((List V) × Int) × Unit))) (fun (v9, v10, (v11, v12), v13, v14) =>
          if decide (v14 < v13) = true then
            if 0 ≤ v14 ∧ v14 < (↑v12 : Int) then
              (v9[v11 + Int.toNat v14]?).bind fun v15 =>
              ((V.cells v15)[0]?).bind fun v16 =>
                (V.int? .u8 v16).bind fun v17 =>
                  some (.inl ((v9, wordOr .u64 (wordShl .u64 v10 8) (wu64 v17), (v11, v12), v13, w64 (v14 + 1))))
            else
              none
          else
            some (.inr (((v10, v5), (v6, v7), PUnit.unit)))) ((v4, 0, (0, List.length v4), len v4, 0))
noncomputable def fn_cursor_Cursor_Number : Fn := ⟨37, [.nd 90 [.v (.lst false 1), .v (.int .i64)], .v (.int .i64)], .io (.tup [.t (.v (.int .u64)), .t (.v (.int .i64))]) [.nd 90 [.v (.lst false 1), .v (.int .i64)], .t .dead], F_cursor_Cursor_Number⟩
theorem t_cursor_Cursor_Number : GoodAt Try.prog HH HSP 3 fn_cursor_Cursor_Number := goodAt_of (ho := HO) (l := [fn_cursor_Cursor_Take]) rfl (hl1 (t_cursor_Cursor_Take.up (by decide)) hl0) fun x => by kernel_rfl

noncomputable def F_mpi_take : Ps [.nd 90 [.v (.lst false 1), .v (.int .i64)]] → Option (Rc.I (.io (.tup [.t (.v (.lst false 1)), .t (.v (.int .i64))]) [.nd 90 [.v (.lst false 1), .v (.int .i64)]])) := fun ((v0, v1) : ((List V) × Int)) =>
  (F_cursor_Cursor_Number ((v0, v1), 2) : Option ((Int × Int) × (((List V) × Int) × Unit))).bind fun (((v2, v3), (v4, v5), v6) : ((Int × Int) × (((List V) × Int) × Unit))) =>
  if (v3 != 0) = true then
      some (((nilV, v3), v4, v5))
    else
      if decide (v2 > 16384) = true then
        some (((nilV, 4), v4, v5))
      else
        (F_cursor_Cursor_Take ((v4, v5), w64 (Int.tdiv (w64 (w64 v2 + 7)) 8)) : Option (((List V) × Int) × (((List V) × Int) × Unit))).bind fun (((v7, v8), (v9, v10), v11) : (((List V) × Int) × (((List V) × Int) × Unit))) =>
        if (v8 != 0) = true then
            some (((nilV, v8), v9, v10))
          else
            (F_nat_Read (all v7) : Option (List V)).bind fun (v12 : (List V)) =>
            (F_nat_Bits v12 : Option Int).bind fun (v13 : Int) =>
              if (v13 != w64 v2) = true then
                  some (((nilV, 3), v9, v10))
                else
                  some (((v12, 0), v9, v10))
noncomputable def fn_mpi_take : Fn := ⟨101, [.nd 90 [.v (.lst false 1), .v (.int .i64)]], .io (.tup [.t (.v (.lst false 1)), .t (.v (.int .i64))]) [.nd 90 [.v (.lst false 1), .v (.int .i64)]], F_mpi_take⟩
theorem t_mpi_take : GoodAt Try.prog HH HSP 4 fn_mpi_take := goodAt_of (ho := HO) (l := [fn_cursor_Cursor_Number, fn_cursor_Cursor_Take, fn_nat_Read, fn_nat_Bits]) rfl (hl1 (t_cursor_Cursor_Number.up (by decide)) (hl1 (t_cursor_Cursor_Take.up (by decide)) (hl1 (t_nat_Read.up (by decide)) (hl1 (t_nat_Bits.up (by decide)) hl0)))) fun x => by kernel_rfl

noncomputable def F_cursor_Over : Ps [.v (.lst true 1)] → Option (Rc.I (.pure (.one (.nd 90 [.v (.lst false 1), .v (.int .i64)])) 1)) := fun (v0 : (List V)) =>
  (if List.length v0 ≤ 2147483648 then
      some (v0)
    else
      none : Option (List V)).bind fun v1 =>
  some ((v1, 0))
noncomputable def fn_cursor_Over : Fn := ⟨36, [.v (.lst true 1)], .pure (.one (.nd 90 [.v (.lst false 1), .v (.int .i64)])) 1, F_cursor_Over⟩
theorem t_cursor_Over : GoodAt Try.prog HH HSP 2 fn_cursor_Over := goodAt_of (ho := HO) (l := [fn_bytes_Clone]) rfl (hl1 (t_bytes_Clone.up (by decide)) hl0) fun x => by kernel_rfl

noncomputable def F_mpi_All : Ps [.v (.lst true 1), .v (.int .i64)] → Option (Rc.I (.pure (.tup [.t (.own 24), .t (.v (.int .i64))]) 2)) := fun ((v0, v1) : ((List V) × Int)) =>
  (if decide (v1 < 0) = false then
      some (decide (v1 > 10))
    else
      some (true) : Option Bool).bind fun v2 =>
  if v2 = true then
      some ((nilV, 1))
    else
      (F_cursor_Over v0 : Option ((List V) × Int)).bind fun ((v3, v4) : ((List V) × Int)) =>
      loopO (σ := ((List V) × (Int × (((List V) × Int) × ((List V) × (Int × Int)))))) (R := ((List V) × Int)) (fun (v5, v6, (v7, v8), v9, v10, v11) =>
          if decide (v11 < v10) = true then
            (F_mpi_take (v7, v8) : Option (((List V) × Int) × ((List V) × Int))).bind fun (((v12, v13), v14, v15) : (((List V) × Int) × ((List V) × Int))) =>
            if (v13 != 0) = true then
                some (.inr ((nilV, v13)))
              else
                if List.length (all v9) + 1 ≤ 2147483648 then
                  some (.inl ((v5, v6, (v14, v15), all v9 ++ [V.sl false false 1 v12], v10, w64 (v11 + 1))))
                else
                  none
          else
            ((F_cursor_Cursor_Left (v7, v8) : Option (Int × ((List V) × Int))).bind fun ((v16, v17, v18) : (Int × ((List V) × Int))) =>
              if decide (v16 > 0) = true then
                  some ((nilV, 3))
                else
                  some ((all v9, 0)) : Option ((List V) × Int)).bind fun (v19, v20) =>
            some (.inr ((v19, v20)))) ((nilV, 0, (v3, v4), nilV, v1, 0))
noncomputable def fn_mpi_All : Fn := ⟨65, [.v (.lst true 1), .v (.int .i64)], .pure (.tup [.t (.own 24), .t (.v (.int .i64))]) 2, F_mpi_All⟩
theorem t_mpi_All : GoodAt Try.prog HH HSP 5 fn_mpi_All := goodAt_of (ho := HO) (l := [fn_cursor_Over, fn_mpi_take, fn_cursor_Cursor_Left]) rfl (hl1 (t_cursor_Over.up (by decide)) (hl1 (t_mpi_take.up (by decide)) (hl1 (t_cursor_Cursor_Left.up (by decide)) hl0))) fun x => by kernel_rfl

noncomputable def F_key_fill : Ps [.v (.st rapi_Key), .v (.lst true 1)] → Option (Rc.I (.pure (.tup [.t (.v (.st rapi_Key)), .t (.v (.int .i64))]) 2)) := fun (((v0, v1, v2, v3, v4, v5), v6) : ((Int × (Int × (Int × ((List V) × ((List V) × (List Int)))))) × (List V))) =>
  if (v2 == 27) = true then
    if (len v6 != 32) = true then
      some (((0, 0, 0, nilV, nilV, rep 32 0), 3))
    else
      if 32 ≤ List.length v6 then
        (intsOf .u8 32 v6).bind fun v7 =>
        some (((v0, v1, v2, v3, v4, fitI v7 0 32), 0))
      else
        none
  else
    (F_mpi_All (v6, 2) : Option ((List V) × Int)).bind fun ((v8, v9) : ((List V) × Int)) =>
    if (v9 != 0) = true then
        some (((0, 0, 0, nilV, nilV, rep 32 0), v9))
      else
        if idI 0 ≤ 0 ∧ 0 < len v8 then
          (v8[0]?).bind fun v10 =>
          ((V.cells v10)[0]?).bind fun v11 =>
            (V.lst? false 1 v11).bind fun v12 =>
              if idI 0 ≤ 1 ∧ 1 < len v8 then
                  (v8[1]?).bind fun v13 =>
                  ((V.cells v13)[0]?).bind fun v14 =>
                    (V.lst? false 1 v14).bind fun v15 =>
                      some (((v0, v1, v2, v12, v15, fitI v5 0 32), 0))
                else
                  none
        else
          none
noncomputable def fn_key_fill : Fn := ⟨39, [.v (.st rapi_Key), .v (.lst true 1)], .pure (.tup [.t (.v (.st rapi_Key)), .t (.v (.int .i64))]) 2, F_key_fill⟩
theorem t_key_fill : GoodAt Try.prog HH HSP 6 fn_key_fill := goodAt_of (ho := HO) (l := [fn_mpi_All]) rfl (hl1 (t_mpi_All.up (by decide)) hl0) fun x => by kernel_rfl

noncomputable def F_cursor_Cursor_Rest : Ps [.nd 90 [.v (.lst false 1), .v (.int .i64)]] → Option (Rc.I (.io (.one (.t (.own 5))) [.nd 90 [.v (.lst false 1), .v (.int .i64)]])) := fun ((v0, v1) : ((List V) × Int)) =>
  (F_cursor_Cursor_Left (v0, v1) : Option (Int × ((List V) × Int))).bind fun ((v2, v3, v4) : (Int × ((List V) × Int))) =>
  (F_cursor_Cursor_Take ((v3, v4), v2) : Option (((List V) × Int) × (((List V) × Int) × Unit))).bind fun (((v5, v6), (v7, v8), v9) : (((List V) × Int) × (((List V) × Int) × Unit))) =>
    some ((all v5, v7, v8))
noncomputable def fn_cursor_Cursor_Rest : Fn := ⟨40, [.nd 90 [.v (.lst false 1), .v (.int .i64)]], .io (.one (.t (.own 5))) [.nd 90 [.v (.lst false 1), .v (.int .i64)]], F_cursor_Cursor_Rest⟩
theorem t_cursor_Cursor_Rest : GoodAt Try.prog HH HSP 3 fn_cursor_Cursor_Rest := goodAt_of (ho := HO) (l := [fn_cursor_Cursor_Left, fn_cursor_Cursor_Take]) rfl (hl1 (t_cursor_Cursor_Left.up (by decide)) (hl1 (t_cursor_Cursor_Take.up (by decide)) hl0)) fun x => by kernel_rfl

noncomputable def F_key_size : Ps [.nd 90 [.v (.lst false 1), .v (.int .i64)], .v (.int .i64)] → Option (Rc.I (.io (.one (.t (.v (.int .i64)))) [.nd 90 [.v (.lst false 1), .v (.int .i64)], .t .dead])) := fun (((v0, v1), v2) : (((List V) × Int) × Int)) =>
  if (v2 != 6) = true then
    some ((0, (v0, v1), PUnit.unit))
  else
    (F_cursor_Cursor_Number ((v0, v1), 4) : Option ((Int × Int) × (((List V) × Int) × Unit))).bind fun (((v3, v4), (v5, v6), v7) : ((Int × Int) × (((List V) × Int) × Unit))) =>
    if (v4 == 0) = true then
        (F_cursor_Cursor_Left (v5, v6) : Option (Int × ((List V) × Int))).bind fun ((v8, v9, v10) : (Int × ((List V) × Int))) =>
        if (v3 != wu64 v8) = true then
            some ((3, (v9, v10), PUnit.unit))
          else
            some ((v4, (v9, v10), PUnit.unit))
      else
        some ((v4, (v5, v6), PUnit.unit))
noncomputable def fn_key_size : Fn := ⟨38, [.nd 90 [.v (.lst false 1), .v (.int .i64)], .v (.int .i64)], .io (.one (.t (.v (.int .i64)))) [.nd 90 [.v (.lst false 1), .v (.int .i64)], .t .dead], F_key_size⟩
theorem t_key_size : GoodAt Try.prog HH HSP 4 fn_key_size := goodAt_of (ho := HO) (l := [fn_cursor_Cursor_Number, fn_cursor_Cursor_Left]) rfl (hl1 (t_cursor_Cursor_Number.up (by decide)) (hl1 (t_cursor_Cursor_Left.up (by decide)) hl0)) fun x => by kernel_rfl

noncomputable def F_key_Parse : Ps [.v (.lst true 1)] → Option (Rc.I (.pure (.tup [.t (.v (.st rapi_Key)), .t (.v (.int .i64))]) 1)) := fun (v0 : (List V)) =>
  (F_cursor_Over v0 : Option ((List V) × Int)).bind fun ((v1, v2) : ((List V) × Int)) =>
  (F_cursor_Cursor_Number ((v1, v2), 1) : Option ((Int × Int) × (((List V) × Int) × Unit))).bind fun (((v3, v4), (v5, v6), v7) : ((Int × Int) × (((List V) × Int) × Unit))) =>
    if (v4 != 0) = true then
        some (((0, 0, 0, nilV, nilV, rep 32 0), v4))
      else
        (if (v3 != 4) = true then
            some (v3 != 6)
          else
            some (false) : Option Bool).bind fun v8 =>
        if v8 = true then
            some (((0, 0, 0, nilV, nilV, rep 32 0), 3))
          else
            (F_cursor_Cursor_Number ((v5, v6), 4) : Option ((Int × Int) × (((List V) × Int) × Unit))).bind fun (((v9, v10), (v11, v12), v13) : ((Int × Int) × (((List V) × Int) × Unit))) =>
            if (v10 != 0) = true then
                some (((0, 0, 0, nilV, nilV, rep 32 0), v10))
              else
                (F_cursor_Cursor_Number ((v11, v12), 1) : Option ((Int × Int) × (((List V) × Int) × Unit))).bind fun (((v14, v15), (v16, v17), v18) : ((Int × Int) × (((List V) × Int) × Unit))) =>
                if (v15 != 0) = true then
                    some (((0, 0, 0, nilV, nilV, rep 32 0), v15))
                  else
                    (if (w64 v14 != 1) = true then
                        some (w64 v14 != 27)
                      else
                        some (false) : Option Bool).bind fun v19 =>
                    if v19 = true then
                        some (((0, 0, 0, nilV, nilV, rep 32 0), 9))
                      else
                        (F_key_size ((v16, v17), w64 v3) : Option (Int × (((List V) × Int) × Unit))).bind fun ((v20, (v21, v22), v23) : (Int × (((List V) × Int) × Unit))) =>
                        if (v20 != 0) = true then
                            some (((0, 0, 0, nilV, nilV, rep 32 0), v20))
                          else
                            (F_cursor_Cursor_Rest (v21, v22) : Option ((List V) × ((List V) × Int))).bind fun ((v24, v25, v26) : ((List V) × ((List V) × Int))) =>
                            (F_key_fill ((w64 v3, wu32 v9, w64 v14, nilV, nilV, rep 32 0), all v24) : Option ((Int × (Int × (Int × ((List V) × ((List V) × (List Int)))))) × Int)).bind fun (((v27, v28, v29, v30, v31, v32), v33) : ((Int × (Int × (Int × ((List V) × ((List V) × (List Int)))))) × Int)) =>
                              some (((v27, v28, v29, v30, v31, fitI v32 0 32), v33))
noncomputable def fn_key_Parse : Fn := ⟨12, [.v (.lst true 1)], .pure (.tup [.t (.v (.st rapi_Key)), .t (.v (.int .i64))]) 1, F_key_Parse⟩
theorem t_key_Parse : GoodAt Try.prog HH HSP 7 fn_key_Parse := goodAt_of (ho := HO) (l := [fn_cursor_Over, fn_cursor_Cursor_Number, fn_key_size, fn_cursor_Cursor_Rest, fn_key_fill]) rfl (hl1 (t_cursor_Over.up (by decide)) (hl1 (t_cursor_Cursor_Number.up (by decide)) (hl1 (t_key_size.up (by decide)) (hl1 (t_cursor_Cursor_Rest.up (by decide)) (hl1 (t_key_fill.up (by decide)) hl0))))) fun x => by kernel_rfl

noncomputable def F_cursor_Put : Ps [.v (.lst true 1), .v (.int .u64), .v (.int .i64)] → Option (Rc.I (.pure (.tup [.t (.own 5), .t (.v (.int .i64))]) 3)) := fun ((v0, v1, v2) : ((List V) × (Int × Int))) =>
  (if decide (v2 < 1) = false then
      if decide (v2 > 8) = false then
        if decide (v2 < 8) = true then
          if w64 (8 * v2) < 0 then
            none
          else
            some (wordShr .u64 v1 (w64 (8 * v2)) != 0)
        else
          some (false)
      else
        some (true)
    else
      some (true) : Option Bool).bind fun v3 =>
  if v3 = true then
      some ((nilV, 1))
    else
      if 0 ≤ len v0 ∧ len v0 ≤ w64 (len v0 + v2) ∧ w64 (len v0 + v2) ≤ 2147483648 then
        loopO (σ := (Int × ((List V) × Int))) (R := ((List V) × Int)) (fun (v4, v5, v6) =>
          if decide (v6 ≥ 0) = true then
            if v6 < 0 then
              none
            else
              if List.length (all v5) + 1 ≤ 2147483648 then
                some (.inl ((v4, all v5 ++ [V.int .u8 (wu8 (wordShr .u64 v4 v6))], w64 (v6 - 8))))
              else
                none
          else
            some (.inr ((all v5, 0)))) ((v1, List.take (min (List.length (rep (List.length v0) (V.int .u8 0))) (List.length v0)) v0 ++ List.drop (0 + min (List.length (rep (List.length v0) (V.int .u8 0))) (List.length v0)) (rep (List.length v0) (V.int .u8 0)), w64 (8 * w64 (v2 - 1))))
      else
        none
noncomputable def fn_cursor_Put : Fn := ⟨62, [.v (.lst true 1), .v (.int .u64), .v (.int .i64)], .pure (.tup [.t (.own 5), .t (.v (.int .i64))]) 3, F_cursor_Put⟩
theorem t_cursor_Put : GoodAt Try.prog HH HSP 1 fn_cursor_Put := goodAt_of (ho := HO) (l := []) rfl hl0 fun x => by kernel_rfl

noncomputable def F_key_put : Ps [.v (.lst true 1), .v (.int .i64), .v (.int .i64)] → Option (Rc.I (.pure (.one (.t (.own 5))) 3)) := fun ((v0, v1, v2) : ((List V) × (Int × Int))) =>
  (F_cursor_Put (v0, wu64 v1, v2) : Option ((List V) × Int)).bind fun ((v3, v4) : ((List V) × Int)) =>
  some (all v3)
noncomputable def fn_key_put : Fn := ⟨35, [.v (.lst true 1), .v (.int .i64), .v (.int .i64)], .pure (.one (.t (.own 5))) 3, F_key_put⟩
theorem t_key_put : GoodAt Try.prog HH HSP 2 fn_key_put := goodAt_of (ho := HO) (l := [fn_cursor_Put]) rfl (hl1 (t_cursor_Put.up (by decide)) hl0) fun x => by kernel_rfl

noncomputable def F_nat_word : Ps [.v (.lst true 1), .v (.int .i64)] → Option (Rc.I (.pure (.one (.t (.v (.int .u32)))) 2)) := fun ((v0, v1) : ((List V) × Int)) =>
  if decide (v1 < len v0) = true then
    if 0 ≤ v1 then
      (v0[Int.toNat v1]?).bind fun v2 =>
      (V.int? .u32 v2).bind fun v3 =>
        some (v3)
    else
      none
  else
    some (0)
noncomputable def fn_nat_word : Fn := ⟨167, [.v (.lst true 1), .v (.int .i64)], .pure (.one (.t (.v (.int .u32)))) 2, F_nat_word⟩
theorem t_nat_word : GoodAt Try.prog HH HSP 1 fn_nat_word := goodAt_of (ho := HO) (l := []) rfl hl0 fun x => by kernel_rfl

noncomputable def F_nat_lay : Ps [.v (.lst true 1), .v (.int .i64)] → Option (Rc.I (.pure (.one (.t (.own 5))) 2)) := fun ((v0, v1) : ((List V) × Int)) =>
  if 0 ≤ v1 ∧ v1 ≤ v1 ∧ v1 ≤ 2147483648 then
    loopO (σ := ((List V) × (Int × ((List V) × (Int × Int))))) (R := (List V)) (fun (v2, v3, v4, v5, v6) =>
      if decide (v6 < v5) = true then
        (F_nat_word (v2, w64 (Int.tdiv v6 4)) : Option Int).bind fun (v7 : Int) =>
        if w64 (8 * Int.tmod v6 4) < 0 then
            none
          else
            if 0 ≤ w64 (w64 (v3 - 1) - v6) ∧ w64 (w64 (v3 - 1) - v6) < len v4 then
              (v4[0 + Int.toNat (w64 (w64 (v3 - 1) - v6))]?).bind fun v8 =>
              some (.inl ((v2, v3, List.set v4 (0 + Int.toNat (w64 (w64 (v3 - 1) - v6))) (storeEl v8 0 [V.int .u8 (wu8 (wordShr .u32 v7 (w64 (8 * Int.tmod v6 4))))]), v5, w64 (v6 + 1))))
            else
              none
      else
        some (.inr (all v4))) ((v0, v1, rep (Int.toNat v1) (V.int .u8 0), len (rep (Int.toNat v1) (V.int .u8 0)), 0))
  else
    none
noncomputable def fn_nat_lay : Fn := ⟨133, [.v (.lst true 1), .v (.int .i64)], .pure (.one (.t (.own 5))) 2, F_nat_lay⟩
theorem t_nat_lay : GoodAt Try.prog HH HSP 2 fn_nat_lay := goodAt_of (ho := HO) (l := [fn_nat_word]) rfl (hl1 (t_nat_word.up (by decide)) hl0) fun x => by kernel_rfl

noncomputable def F_nat_long : Ps [.v (.lst false 1)] → Option (Rc.I (.pure (.one (.t (.v (.int .i64)))) 1)) := fun (v0 : (List V)) =>
  (F_nat_Bits v0 : Option Int).bind fun (v1 : Int) =>
  some (w64 (Int.tdiv (w64 (v1 + 7)) 8))
noncomputable def fn_nat_long : Fn := ⟨134, [.v (.lst false 1)], .pure (.one (.t (.v (.int .i64)))) 1, F_nat_long⟩
theorem t_nat_long : GoodAt Try.prog HH HSP 3 fn_nat_long := goodAt_of (ho := HO) (l := [fn_nat_Bits]) rfl (hl1 (t_nat_Bits.up (by decide)) hl0) fun x => by kernel_rfl

noncomputable def F_nat_Bytes : Ps [.v (.lst false 1)] → Option (Rc.I (.pure (.one (.t (.own 5))) 1)) := fun (v0 : (List V)) =>
  (F_nat_long v0 : Option Int).bind fun (v1 : Int) =>
  (F_nat_lay (v0, v1) : Option (List V)).bind fun (v2 : (List V)) =>
    some (v2)
noncomputable def fn_nat_Bytes : Fn := ⟨100, [.v (.lst false 1)], .pure (.one (.t (.own 5))) 1, F_nat_Bytes⟩
theorem t_nat_Bytes : GoodAt Try.prog HH HSP 4 fn_nat_Bytes := goodAt_of (ho := HO) (l := [fn_nat_long, fn_nat_lay]) rfl (hl1 (t_nat_long.up (by decide)) (hl1 (t_nat_lay.up (by decide)) hl0)) fun x => by kernel_rfl

noncomputable def F_mpi_Put : Ps [.v (.lst false 1), .v (.lst false 1)] → Option (Rc.I (.pure (.tup [.t (.own 5), .t (.v (.int .i64))]) 2)) := fun ((v0, v1) : ((List V) × (List V))) =>
  (F_nat_Bits v1 : Option Int).bind fun (v2 : Int) =>
  if decide (v2 > 16384) = true then
      some ((nilV, 4))
    else
      (F_cursor_Put (v0, wu64 v2, 2) : Option ((List V) × Int)).bind fun ((v3, v4) : ((List V) × Int)) =>
      (F_nat_Bytes v1 : Option (List V)).bind fun (v5 : (List V)) =>
        if List.length (all v3) + List.length (all v5) ≤ 2147483648 then
            some ((all v3 ++ all v5, v4))
          else
            none
noncomputable def fn_mpi_Put : Fn := ⟨61, [.v (.lst false 1), .v (.lst false 1)], .pure (.tup [.t (.own 5), .t (.v (.int .i64))]) 2, F_mpi_Put⟩
theorem t_mpi_Put : GoodAt Try.prog HH HSP 5 fn_mpi_Put := goodAt_of (ho := HO) (l := [fn_nat_Bits, fn_cursor_Put, fn_nat_Bytes]) rfl (hl1 (t_nat_Bits.up (by decide)) (hl1 (t_cursor_Put.up (by decide)) (hl1 (t_nat_Bytes.up (by decide)) hl0))) fun x => by kernel_rfl

noncomputable def F_key_material : Ps [.v (.st rapi_Key)] → Option (Rc.I (.pure (.one (.t (.own 5))) 1)) := fun ((v0, v1, v2, v3, v4, v5) : (Int × (Int × (Int × ((List V) × ((List V) × (List Int))))))) =>
  if (v2 == 27) = true then
    some (arrV .u8 v5 0 32)
  else
    (F_mpi_Put (nilV, v3) : Option ((List V) × Int)).bind fun ((v6, v7) : ((List V) × Int)) =>
    (F_mpi_Put (all v6, v4) : Option ((List V) × Int)).bind fun ((v8, v9) : ((List V) × Int)) =>
      some (all v8)
noncomputable def fn_key_material : Fn := ⟨34, [.v (.st rapi_Key)], .pure (.one (.t (.own 5))) 1, F_key_material⟩
theorem t_key_material : GoodAt Try.prog HH HSP 6 fn_key_material := goodAt_of (ho := HO) (l := [fn_bytes_Clone, fn_mpi_Put]) rfl (hl1 (t_bytes_Clone.up (by decide)) (hl1 (t_mpi_Put.up (by decide)) hl0)) fun x => by kernel_rfl

noncomputable def F_key_isShort : Ps [.v (.lst false 1)] → Option (Rc.I (.pure (.one (.t (.v .bool))) 1)) := fun (v0 : (List V)) =>
  (F_nat_Bits v0 : Option Int).bind fun (v1 : Int) =>
  some (decide (v1 ≤ 16384))
noncomputable def fn_key_isShort : Fn := ⟨60, [.v (.lst false 1)], .pure (.one (.t (.v .bool))) 1, F_key_isShort⟩
theorem t_key_isShort : GoodAt Try.prog HH HSP 3 fn_key_isShort := goodAt_of (ho := HO) (l := [fn_nat_Bits]) rfl (hl1 (t_nat_Bits.up (by decide)) hl0) fun x => by kernel_rfl

noncomputable def F_key_may : Ps [.v (.st rapi_Key)] → Option (Rc.I (.pure (.one (.t (.v .bool))) 1)) := fun ((v0, v1, v2, v3, v4, v5) : (Int × (Int × (Int × ((List V) × ((List V) × (List Int))))))) =>
  (if (v0 != 4) = true then
      some (v0 != 6)
    else
      some (false) : Option Bool).bind fun v6 =>
  if v6 = true then
      some (false)
    else
      if (v2 == 1) = true then
        (if (fitI v5 0 32 == rep 32 0) = true then
            (F_key_isShort v3 : Option Bool).bind fun (v7 : Bool) =>
            if v7 = true then
                (F_key_isShort v4 : Option Bool).bind fun (v8 : Bool) =>
                some (v8)
              else
                some (false)
          else
            some (false) : Option Bool).bind fun v9 =>
        some (v9)
      else
        if (v2 == 27) = true then
          (if (len v3 == 0) = true then
              some (len v4 == 0)
            else
              some (false) : Option Bool).bind fun v10 =>
          some (v10)
        else
          some (false)
noncomputable def fn_key_may : Fn := ⟨33, [.v (.st rapi_Key)], .pure (.one (.t (.v .bool))) 1, F_key_may⟩
theorem t_key_may : GoodAt Try.prog HH HSP 4 fn_key_may := goodAt_of (ho := HO) (l := [fn_key_isShort]) rfl (hl1 (t_key_isShort.up (by decide)) hl0) fun x => by kernel_rfl

noncomputable def F_key_Emit : Ps [.v (.st rapi_Key)] → Option (Rc.I (.pure (.tup [.t (.own 5), .t (.v (.int .i64))]) 1)) := fun ((v0, v1, v2, v3, v4, v5) : (Int × (Int × (Int × ((List V) × ((List V) × (List Int))))))) =>
  (F_key_may (v0, v1, v2, v3, v4, fitI v5 0 32) : Option Bool).bind fun (v6 : Bool) =>
  if (!v6) = true then
      some ((nilV, 1))
    else
      (F_key_material (v0, v1, v2, v3, v4, fitI v5 0 32) : Option (List V)).bind fun (v7 : (List V)) =>
      (F_key_put ([V.int .u8 (wu8 v0)], w64 v1, 4) : Option (List V)).bind fun (v8 : (List V)) =>
        if List.length v8 + 1 ≤ 2147483648 then
            (if (v0 == 6) = true then
                (F_key_put (all (v8 ++ [V.int .u8 (wu8 v2)]), len v7, 4) : Option (List V)).bind fun (v9 : (List V)) =>
                some (.inl ((v7, v9)))
              else
                some (.inl ((v7, v8 ++ [V.int .u8 (wu8 v2)]))) : Option (((List V) × (List V)) ⊕ ((List V) × Int))).bind fun v10 =>
            match v10 with
              | .inl (v11, v12) =>
                if List.length (all v12) + List.length (all v11) ≤ 2147483648 then
                  some ((all v12 ++ all v11, 0))
                else
                  none
              | .inr (v13, v14) =>
                some ((v13, v14))
          else
            none
noncomputable def fn_key_Emit : Fn := ⟨11, [.v (.st rapi_Key)], .pure (.tup [.t (.own 5), .t (.v (.int .i64))]) 1, F_key_Emit⟩
theorem t_key_Emit : GoodAt Try.prog HH HSP 7 fn_key_Emit := goodAt_of (ho := HO) (l := [fn_key_may, fn_key_material, fn_key_put]) rfl (hl1 (t_key_may.up (by decide)) (hl1 (t_key_material.up (by decide)) (hl1 (t_key_put.up (by decide)) hl0))) fun x => by kernel_rfl

noncomputable def F_key_Image : Ps [.v (.st rapi_Key)] → Option (Rc.I (.pure (.tup [.t (.own 5), .t (.v (.int .i64))]) 1)) := fun ((v0, v1, v2, v3, v4, v5) : (Int × (Int × (Int × ((List V) × ((List V) × (List Int))))))) =>
  (F_key_Emit (v0, v1, v2, v3, v4, fitI v5 0 32) : Option ((List V) × Int)).bind fun ((v6, v7) : ((List V) × Int)) =>
  if (v7 != 0) = true then
      some ((nilV, v7))
    else
      if (v0 == 6) = true then
        (F_key_put ([V.int .u8 155], len v6, 4) : Option (List V)).bind fun (v8 : (List V)) =>
        if List.length v8 + List.length (all v6) ≤ 2147483648 then
            some ((v8 ++ all v6, 0))
          else
            none
      else
        (F_key_put ([V.int .u8 153], len v6, 2) : Option (List V)).bind fun (v9 : (List V)) =>
        if List.length v9 + List.length (all v6) ≤ 2147483648 then
            some ((v9 ++ all v6, 0))
          else
            none
noncomputable def fn_key_Image : Fn := ⟨32, [.v (.st rapi_Key)], .pure (.tup [.t (.own 5), .t (.v (.int .i64))]) 1, F_key_Image⟩
theorem t_key_Image : GoodAt Try.prog HH HSP 8 fn_key_Image := goodAt_of (ho := HO) (l := [fn_key_Emit, fn_key_put]) rfl (hl1 (t_key_Emit.up (by decide)) (hl1 (t_key_put.up (by decide)) hl0)) fun x => by kernel_rfl

noncomputable def F_affiantlaw23_alive : Ps [] → Option (Rc.I (.pure (.one (.t (.v .bool))) 0)) := fun (v0 : Unit) =>
  (F_key_Image (4, 0, 27, nilV, nilV, rep 32 0) : Option ((List V) × Int)).bind fun ((v1, v2) : ((List V) × Int)) =>
  (F_key_Parse [V.int .u8 3] : Option ((Int × (Int × (Int × ((List V) × ((List V) × (List Int)))))) × Int)).bind fun (((v3, v4, v5, v6, v7, v8), v9) : ((Int × (Int × (Int × ((List V) × ((List V) × (List Int)))))) × Int)) =>
    (if (v2 == 0) = true then
          if (len v1 == 41) = true then
            if idN 0 ≤ 4 ∧ 4 ≤ List.length v1 then
              (unbytes (List.take 4 (List.drop 0 v1))).bind fun v10 =>
              if (v10 == by8 [153, 0, 38, 4]) = true then
                  some (v9 == 3)
                else
                  some (false)
            else
              none
          else
            some (false)
        else
          some (false) : Option Bool).bind fun v11 =>
      some (v11)
noncomputable def fn_affiantlaw23_alive : Fn := ⟨10, [], .pure (.one (.t (.v .bool))) 0, F_affiantlaw23_alive⟩
theorem t_affiantlaw23_alive : GoodAt Try.prog HH HSP 9 fn_affiantlaw23_alive := goodAt_of (ho := HO) (l := [fn_key_Image, fn_key_Parse]) rfl (hl1 (t_key_Image.up (by decide)) (hl1 (t_key_Parse.up (by decide)) hl0)) fun x => by kernel_rfl

noncomputable def F_hash_spell_uint64_ : Ps [.v (.lst true 1), .v (.int .i64), .v (.int .i64)] → Option (Rc.I (.pure (.one (.t (.own 5))) 3)) := fun ((v0, v1, v2) : ((List V) × (Int × Int))) =>
  if 0 ≤ v2 ∧ v2 ≤ v2 ∧ v2 ≤ 2147483648 then
    loopO (σ := ((List V) × (Int × ((List V) × (Int × Int))))) (R := (List V)) (fun (v3, v4, v5, v6, v7) =>
      if decide (v7 < v6) = true then
        if v4 = 0 then
          none
        else
          if 0 ≤ w64 (Int.tdiv v7 v4) then
            (v3[Int.toNat (w64 (Int.tdiv v7 v4))]?).bind fun v8 =>
            (V.int? .u64 v8).bind fun v9 =>
              if v4 = 0 then
                  none
                else
                  if w64 (8 * w64 (w64 (v4 - 1) - Int.tmod v7 v4)) < 0 then
                    none
                  else
                    if 0 ≤ v7 ∧ v7 < len v5 then
                      (v5[0 + Int.toNat v7]?).bind fun v10 =>
                      some (.inl ((v3, v4, List.set v5 (0 + Int.toNat v7) (storeEl v10 0 [V.int .u8 (wu8 (wordShr .u64 v9 (w64 (8 * w64 (w64 (v4 - 1) - Int.tmod v7 v4)))))]), v6, w64 (v7 + 1))))
                    else
                      none
          else
            none
      else
        some (.inr (all v5))) ((v0, v1, rep (Int.toNat v2) (V.int .u8 0), len (rep (Int.toNat v2) (V.int .u8 0)), 0))
  else
    none
noncomputable def fn_hash_spell_uint64_ : Fn := ⟨166, [.v (.lst true 1), .v (.int .i64), .v (.int .i64)], .pure (.one (.t (.own 5))) 3, F_hash_spell_uint64_⟩
theorem t_hash_spell_uint64_ : GoodAt Try.prog HH HSP 1 fn_hash_spell_uint64_ := goodAt_of (ho := HO) (l := []) rfl hl0 fun x => by kernel_rfl

noncomputable def F_hash_spell_uint32_ : Ps [.v (.lst true 1), .v (.int .i64), .v (.int .i64)] → Option (Rc.I (.pure (.one (.t (.own 5))) 3)) := fun ((v0, v1, v2) : ((List V) × (Int × Int))) =>
  if 0 ≤ v2 ∧ v2 ≤ v2 ∧ v2 ≤ 2147483648 then
    loopO (σ := ((List V) × (Int × ((List V) × (Int × Int))))) (R := (List V)) (fun (v3, v4, v5, v6, v7) =>
      if decide (v7 < v6) = true then
        if v4 = 0 then
          none
        else
          if 0 ≤ w64 (Int.tdiv v7 v4) then
            (v3[Int.toNat (w64 (Int.tdiv v7 v4))]?).bind fun v8 =>
            (V.int? .u32 v8).bind fun v9 =>
              if v4 = 0 then
                  none
                else
                  if w64 (8 * w64 (w64 (v4 - 1) - Int.tmod v7 v4)) < 0 then
                    none
                  else
                    if 0 ≤ v7 ∧ v7 < len v5 then
                      (v5[0 + Int.toNat v7]?).bind fun v10 =>
                      some (.inl ((v3, v4, List.set v5 (0 + Int.toNat v7) (storeEl v10 0 [V.int .u8 (wu8 (wordShr .u64 (wu64 v9) (w64 (8 * w64 (w64 (v4 - 1) - Int.tmod v7 v4)))))]), v6, w64 (v7 + 1))))
                    else
                      none
          else
            none
      else
        some (.inr (all v5))) ((v0, v1, rep (Int.toNat v2) (V.int .u8 0), len (rep (Int.toNat v2) (V.int .u8 0)), 0))
  else
    none
noncomputable def fn_hash_spell_uint32_ : Fn := ⟨157, [.v (.lst true 1), .v (.int .i64), .v (.int .i64)], .pure (.one (.t (.own 5))) 3, F_hash_spell_uint32_⟩
theorem t_hash_spell_uint32_ : GoodAt Try.prog HH HSP 1 fn_hash_spell_uint32_ := goodAt_of (ho := HO) (l := []) rfl hl0 fun x => by kernel_rfl

noncomputable def F_math_bits_RotateLeft64 : Ps [.v (.int .u64), .v (.int .i64)] → Option (Rc.I (.pure (.one (.t (.v (.int .u64)))) 2)) := fun ((v0, v1) : (Int × Int)) =>
  if wu64 (64 - wordAnd .u64 (wu64 v1) 63) < 0 then
    none
  else
    some (wordOr .u64 (wordShl .u64 v0 (wordAnd .u64 (wu64 v1) 63)) (wordShr .u64 v0 (wu64 (64 - wordAnd .u64 (wu64 v1) 63))))
noncomputable def fn_math_bits_RotateLeft64 : Fn := ⟨191, [.v (.int .u64), .v (.int .i64)], .pure (.one (.t (.v (.int .u64)))) 2, F_math_bits_RotateLeft64⟩
theorem t_math_bits_RotateLeft64 : GoodAt Try.prog HH HSP 1 fn_math_bits_RotateLeft64 := goodAt_of (ho := HO) (l := []) rfl hl0 fun x => by kernel_rfl

noncomputable def F_sha512_spread : Ps [.v .agg] → Option (Rc.I (.pure (.one (.t (.v .agg))) 1)) := fun (v0 : (List V)) =>
  if List.length v0 = 128 ∧ List.all v0 V.one = true then
    if 128 ≤ List.length (List.map T.p v0) ∧ idN 0 < 128 then
      (elemsS.T.pures (List.take 128 (List.drop 0 (List.map T.p v0)))).bind fun v1 =>
      loopO (σ := ((List T) × ((List V) × Int))) (R := (List V)) (fun (v2, v3, v4) =>
          if decide (v4 < 128) = true then
            if 0 ≤ v4 ∧ v4 < 128 then
              (v3[Int.toNat v4]?).bind fun v5 =>
              (V.int? .u8 v5).bind fun v6 =>
                if 0 ≤ w64 (Int.tdiv v4 8) ∧ w64 (Int.tdiv v4 8) < 80 then
                    if 0 + Int.toNat (w64 (Int.tdiv v4 8)) * 1 < List.length v2 then
                      (v2[0 + Int.toNat (w64 (Int.tdiv v4 8)) * 1]?).bind fun v7 =>
                      (T.val? v7).bind fun v8 =>
                        (V.int? .u64 v8).bind fun v9 =>
                          if 0 ≤ w64 (Int.tdiv v4 8) ∧ w64 (Int.tdiv v4 8) < 80 then
                              if 0 + Int.toNat (w64 (Int.tdiv v4 8)) * 1 < List.length v2 then
                                if 0 + Int.toNat (w64 (Int.tdiv v4 8)) * 1 < List.length v2 then
                                  some (.inl ((List.set v2 (0 + Int.toNat (w64 (Int.tdiv v4 8)) * 1) (T.p (V.int .u64 (wordOr .u64 (wordShl .u64 v9 8) (wu64 v6)))), v3, w64 (v4 + 1))))
                                else
                                  none
                              else
                                none
                            else
                              none
                    else
                      none
                  else
                    none
            else
              none
          else
            (loopO (σ := ((List T) × Int)) (R := (List V)) (fun (v10, v11) =>
                if decide (v11 < 80) = true then
                  if 0 ≤ w64 (v11 - 15) ∧ w64 (v11 - 15) < 80 then
                    if 0 + Int.toNat (w64 (v11 - 15)) * 1 < List.length v10 then
                      (v10[0 + Int.toNat (w64 (v11 - 15)) * 1]?).bind fun v12 =>
                      (T.val? v12).bind fun v13 =>
                        (V.int? .u64 v13).bind fun v14 =>
                          if 0 ≤ w64 (v11 - 2) ∧ w64 (v11 - 2) < 80 then
                              if 0 + Int.toNat (w64 (v11 - 2)) * 1 < List.length v10 then
                                (v10[0 + Int.toNat (w64 (v11 - 2)) * 1]?).bind fun v15 =>
                                (T.val? v15).bind fun v16 =>
                                  (V.int? .u64 v16).bind fun v17 =>
                                    (F_math_bits_RotateLeft64 (v14, -1) : Option Int).bind fun (v18 : Int) =>
                                      (F_math_bits_RotateLeft64 (v14, -8) : Option Int).bind fun (v19 : Int) =>
                                        (F_math_bits_RotateLeft64 (v17, -19) : Option Int).bind fun (v20 : Int) =>
                                          (F_math_bits_RotateLeft64 (v17, -61) : Option Int).bind fun (v21 : Int) =>
                                            if 0 ≤ w64 (v11 - 16) ∧ w64 (v11 - 16) < 80 then
                                                if 0 + Int.toNat (w64 (v11 - 16)) * 1 < List.length v10 then
                                                  (v10[0 + Int.toNat (w64 (v11 - 16)) * 1]?).bind fun v22 =>
                                                  (T.val? v22).bind fun v23 =>
                                                    (V.int? .u64 v23).bind fun v24 =>
                                                      if 0 ≤ w64 (v11 - 7) ∧ w64 (v11 - 7) < 80 then
                                                          if 0 + Int.toNat (w64 (v11 - 7)) * 1 < List.length v10 then
                                                            (v10[0 + Int.toNat (w64 (v11 - 7)) * 1]?).bind fun v25 =>
                                                            (T.val? v25).bind fun v26 =>
                                                              (V.int? .u64 v26).bind fun v27 =>
                                                                if 0 ≤ v11 ∧ v11 < 80 then
                                                                    if 0 + Int.toNat v11 * 1 < List.length v10 then
                                                                      if 0 + Int.toNat v11 * 1 < List.length v10 then
                                                                        some (.inl ((List.set v10 (0 + Int.toNat v11 * 1) (T.p (V.int .u64 (wu64 (wu64 (wu64 (v24 + wordXor .u64 (wordXor .u64 v18 v19) (wordShr .u64 v14 7)) + v27) + wordXor .u64 (wordXor .u64 v20 v21) (wordShr .u64 v17 6))))), w64 (v11 + 1))))
                                                                      else
                                                                        none
                                                                    else
                                                                      none
                                                                  else
                                                                    none
                                                          else
                                                            none
                                                        else
                                                          none
                                                else
                                                  none
                                              else
                                                none
                              else
                                none
                            else
                              none
                    else
                      none
                  else
                    none
                else
                  (if 80 ≤ List.length v10 ∧ idN 0 < 80 then
                      (elemsS.T.pures (List.take 80 (List.drop 0 v10))).bind fun v28 =>
                      if List.length v28 = 80 ∧ List.length (rep 80 (T.p (V.int .u64 0))) = 80 then
                          (elemsS.T.pures (List.map T.p v28)).bind fun v29 =>
                          if 80 = List.length v29 ∧ idN 0 < 80 then
                              if V.stabL v29 = true then
                                some (v29)
                              else
                                none
                            else
                              none
                        else
                          none
                    else
                      none : Option (List V)).bind fun v30 =>
                  some (.inr (v30))) ((v2, 16)) : Option (List V)).bind fun v31 =>
            some (.inr (v31))) ((rep 80 (T.p (V.int .u64 0)), v1, 0))
    else
      none
  else
    none
noncomputable def fn_sha512_spread : Fn := ⟨190, [.v .agg], .pure (.one (.t (.v .agg))) 1, F_sha512_spread⟩
theorem t_sha512_spread : GoodAt Try.prog HH HSP 2 fn_sha512_spread := goodAt_of (ho := HO) (l := [fn_math_bits_RotateLeft64]) rfl (hl1 (t_math_bits_RotateLeft64.up (by decide)) hl0) fun x => by kernel_rfl

noncomputable def F_sha512_steps : Ps [] → Option (Rc.I (.pure (.one (.t (.v .agg))) 0)) := fun (v0 : Unit) =>
  some ([V.int .u64 4794697086780616226, V.int .u64 8158064640168781261, V.int .u64 13096744586834688815, V.int .u64 16840607885511220156, V.int .u64 4131703408338449720, V.int .u64 6480981068601479193, V.int .u64 10538285296894168987, V.int .u64 12329834152419229976, V.int .u64 15566598209576043074, V.int .u64 1334009975649890238, V.int .u64 2608012711638119052, V.int .u64 6128411473006802146, V.int .u64 8268148722764581231, V.int .u64 9286055187155687089, V.int .u64 11230858885718282805, V.int .u64 13951009754708518548, V.int .u64 16472876342353939154, V.int .u64 17275323862435702243, V.int .u64 1135362057144423861, V.int .u64 2597628984639134821, V.int .u64 3308224258029322869, V.int .u64 5365058923640841347, V.int .u64 6679025012923562964, V.int .u64 8573033837759648693, V.int .u64 10970295158949994411, V.int .u64 12119686244451234320, V.int .u64 12683024718118986047, V.int .u64 13788192230050041572, V.int .u64 14330467153632333762, V.int .u64 15395433587784984357, V.int .u64 489312712824947311, V.int .u64 1452737877330783856, V.int .u64 2861767655752347644, V.int .u64 3322285676063803686, V.int .u64 5560940570517711597, V.int .u64 5996557281743188959, V.int .u64 7280758554555802590, V.int .u64 8532644243296465576, V.int .u64 9350256976987008742, V.int .u64 10552545826968843579, V.int .u64 11727347734174303076, V.int .u64 12113106623233404929, V.int .u64 14000437183269869457, V.int .u64 14369950271660146224, V.int .u64 15101387698204529176, V.int .u64 15463397548674623760, V.int .u64 17586052441742319658, V.int .u64 1182934255886127544, V.int .u64 1847814050463011016, V.int .u64 2177327727835720531, V.int .u64 2830643537854262169, V.int .u64 3796741975233480872, V.int .u64 4115178125766777443, V.int .u64 5681478168544905931, V.int .u64 6601373596472566643, V.int .u64 7507060721942968483, V.int .u64 8399075790359081724, V.int .u64 8693463985226723168, V.int .u64 9568029438360202098, V.int .u64 10144078919501101548, V.int .u64 10430055236837252648, V.int .u64 11840083180663258601, V.int .u64 13761210420658862357, V.int .u64 14299343276471374635, V.int .u64 14566680578165727644, V.int .u64 15097957966210449927, V.int .u64 16922976911328602910, V.int .u64 17689382322260857208, V.int .u64 500013540394364858, V.int .u64 748580250866718886, V.int .u64 1242879168328830382, V.int .u64 1977374033974150939, V.int .u64 2944078676154940804, V.int .u64 3659926193048069267, V.int .u64 4368137639120453308, V.int .u64 4836135668995329356, V.int .u64 5532061633213252278, V.int .u64 6448918945643986474, V.int .u64 6902733635092675308, V.int .u64 7801388544844847127])
noncomputable def fn_sha512_steps : Fn := ⟨189, [], .pure (.one (.t (.v .agg))) 0, F_sha512_steps⟩
theorem t_sha512_steps : GoodAt Try.prog HH HSP 1 fn_sha512_steps := goodAt_of (ho := HO) (l := []) rfl hl0 fun x => by kernel_rfl

noncomputable def F_sha512_Block : Ps [.v (.st [.arr .u64 8]), .v .agg] → Option (Rc.I (.pure (.one (.t (.v (.st [.arr .u64 8])))) 2)) := fun ((v0, v1) : ((List Int) × (List V))) =>
  if List.length v1 = 128 ∧ List.all v1 V.one = true then
    (F_sha512_steps PUnit.unit : Option (List V)).bind fun (v2 : (List V)) =>
    if List.length v2 = 80 ∧ List.length (rep 80 (T.p (V.int .u64 0))) = 80 then
        if 128 ≤ List.length (List.map T.p v1) ∧ idN 0 < 128 then
          (elemsS.T.pures (List.take 128 (List.drop 0 (List.map T.p v1)))).bind fun v3 =>
          (F_sha512_spread v3 : Option (List V)).bind fun (v4 : (List V)) =>
            loopO (σ := ((List T) × ((List Int) × ((List V) × Int)))) (R := (List Int)) (fun (v5, v6, v7, v8) =>
                if decide (v8 < 80) = true then
                  if 0 ≤ v8 ∧ v8 < 80 then
                    (v7[Int.toNat v8]?).bind fun v9 =>
                    (V.int? .u64 v9).bind fun v10 =>
                      (F_math_bits_RotateLeft64 (List.getD v6 4 0, -14) : Option Int).bind fun (v11 : Int) =>
                        (F_math_bits_RotateLeft64 (List.getD v6 4 0, -18) : Option Int).bind fun (v12 : Int) =>
                          (F_math_bits_RotateLeft64 (List.getD v6 4 0, -41) : Option Int).bind fun (v13 : Int) =>
                            if 0 ≤ v8 ∧ v8 < 80 then
                                if 0 + Int.toNat v8 * 1 < List.length v5 then
                                  (v5[0 + Int.toNat v8 * 1]?).bind fun v14 =>
                                  (T.val? v14).bind fun v15 =>
                                    (V.int? .u64 v15).bind fun v16 =>
                                      (F_math_bits_RotateLeft64 (List.getD v6 0 0, -28) : Option Int).bind fun (v17 : Int) =>
                                        (F_math_bits_RotateLeft64 (List.getD v6 0 0, -34) : Option Int).bind fun (v18 : Int) =>
                                          (F_math_bits_RotateLeft64 (List.getD v6 0 0, -39) : Option Int).bind fun (v19 : Int) =>
                                            some (.inl ((v5, [wu64 (wu64 (wu64 (wu64 (wu64 (List.getD v6 7 0 + wordXor .u64 (wordXor .u64 v11 v12) v13) + wordXor .u64 (wordAnd .u64 (List.getD v6 4 0) (List.getD v6 5 0)) (wordAnd .u64 (wordXor .u64 (Int.ofNat (2 ^ 64 - Nat.succ 0)) (List.getD v6 4 0)) (List.getD v6 6 0))) + v16) + v10) + wu64 (wordXor .u64 (wordXor .u64 v17 v18) v19 + wordOr .u64 (wordAnd .u64 (List.getD v6 0 0) (List.getD v6 1 0)) (wordAnd .u64 (List.getD v6 2 0) (wordOr .u64 (List.getD v6 0 0) (List.getD v6 1 0))))), List.getD v6 0 0, List.getD v6 1 0, List.getD v6 2 0, wu64 (List.getD v6 3 0 + wu64 (wu64 (wu64 (wu64 (List.getD v6 7 0 + wordXor .u64 (wordXor .u64 v11 v12) v13) + wordXor .u64 (wordAnd .u64 (List.getD v6 4 0) (List.getD v6 5 0)) (wordAnd .u64 (wordXor .u64 (Int.ofNat (2 ^ 64 - Nat.succ 0)) (List.getD v6 4 0)) (List.getD v6 6 0))) + v16) + v10)), List.getD v6 4 0, List.getD v6 5 0, List.getD v6 6 0], v7, w64 (v8 + 1))))
                                else
                                  none
                              else
                                none
                  else
                    none
                else
                  (loopO (σ := ((List Int) × ((List Int) × Int))) (R := (List Int)) (fun (v20, v21, v22) =>
                      if decide (v22 < 8) = true then
                        if 0 ≤ v22 ∧ v22 < 8 then
                          if 0 + Int.toNat v22 * 1 < 8 then
                            ([T.p (V.int .u64 (List.getD v21 0 0)), T.p (V.int .u64 (List.getD v21 1 0)), T.p (V.int .u64 (List.getD v21 2 0)), T.p (V.int .u64 (List.getD v21 3 0)), T.p (V.int .u64 (List.getD v21 4 0)), T.p (V.int .u64 (List.getD v21 5 0)), T.p (V.int .u64 (List.getD v21 6 0)), T.p (V.int .u64 (List.getD v21 7 0))][0 + Int.toNat v22 * 1]?).bind fun v23 =>
                            (T.val? v23).bind fun v24 =>
                              (V.int? .u64 v24).bind fun v25 =>
                                if 0 ≤ v22 ∧ v22 < 8 then
                                    if 0 + Int.toNat v22 * 1 < 8 then
                                      ([T.p (V.int .u64 (List.getD v20 0 0)), T.p (V.int .u64 (List.getD v20 1 0)), T.p (V.int .u64 (List.getD v20 2 0)), T.p (V.int .u64 (List.getD v20 3 0)), T.p (V.int .u64 (List.getD v20 4 0)), T.p (V.int .u64 (List.getD v20 5 0)), T.p (V.int .u64 (List.getD v20 6 0)), T.p (V.int .u64 (List.getD v20 7 0))][0 + Int.toNat v22 * 1]?).bind fun v26 =>
                                      (T.val? v26).bind fun v27 =>
                                        (V.int? .u64 v27).bind fun v28 =>
                                          if 0 ≤ v22 ∧ v22 < 8 then
                                              if 0 + Int.toNat v22 * 1 < 8 then
                                                if 0 + Int.toNat v22 * 1 < 8 then
                                                  (((((elemsS.T.pures (List.take 8 (List.set [T.p (V.int .u64 (List.getD v21 0 0)), T.p (V.int .u64 (List.getD v21 1 0)), T.p (V.int .u64 (List.getD v21 2 0)), T.p (V.int .u64 (List.getD v21 3 0)), T.p (V.int .u64 (List.getD v21 4 0)), T.p (V.int .u64 (List.getD v21 5 0)), T.p (V.int .u64 (List.getD v21 6 0)), T.p (V.int .u64 (List.getD v21 7 0))] (0 + Int.toNat v22 * 1) (T.p (V.int .u64 (wu64 (v25 + v28))))))).bind fun v29 =>
                                                          (intsOf .u64 8 v29).bind fun v30 =>
                                                            some ((v30, List.drop 8 (List.set [T.p (V.int .u64 (List.getD v21 0 0)), T.p (V.int .u64 (List.getD v21 1 0)), T.p (V.int .u64 (List.getD v21 2 0)), T.p (V.int .u64 (List.getD v21 3 0)), T.p (V.int .u64 (List.getD v21 4 0)), T.p (V.int .u64 (List.getD v21 5 0)), T.p (V.int .u64 (List.getD v21 6 0)), T.p (V.int .u64 (List.getD v21 7 0))] (0 + Int.toNat v22 * 1) (T.p (V.int .u64 (wu64 (v25 + v28))))))) : Option ((List Int) × (List T))).bind fun (v31, v32) =>
                                                        match v32 with
                                                          | [] =>
                                                            some (v31)
                                                          | v33 :: v34 =>
                                                            none : Option (List Int)).bind fun v35 =>
                                                      some ((v35, w64 (v22 + 1))) : Option ((List Int) × Int)).bind fun (v36, v37) =>
                                                    some ((fitI v20 0 8, v36, v37)) : Option ((List Int) × ((List Int) × Int))).bind fun (v38, v39, v40) =>
                                                  some (.inl ((v38, v39, v40)))
                                                else
                                                  none
                                              else
                                                none
                                            else
                                              none
                                    else
                                      none
                                  else
                                    none
                          else
                            none
                        else
                          none
                      else
                        some (.inr (fitI (fitI v21 0 8) 0 8))) ((fitI v0 0 8, fitI v6 0 8, 0)) : Option (List Int)).bind fun v41 =>
                  some (.inr (v41))) ((List.map T.p v2, fitI (fitI v0 0 8) 0 8, v4, 0))
        else
          none
      else
        none
  else
    none
noncomputable def fn_sha512_Block : Fn := ⟨164, [.v (.st [.arr .u64 8]), .v .agg], .pure (.one (.t (.v (.st [.arr .u64 8])))) 2, F_sha512_Block⟩
theorem t_sha512_Block : GoodAt Try.prog HH HSP 3 fn_sha512_Block := goodAt_of (ho := HO) (l := [fn_sha512_steps, fn_sha512_spread, fn_math_bits_RotateLeft64]) rfl (hl1 (t_sha512_steps.up (by decide)) (hl1 (t_sha512_spread.up (by decide)) (hl1 (t_math_bits_RotateLeft64.up (by decide)) hl0))) fun x => by kernel_rfl

noncomputable def F_hash_wide_1 : Ps [.v (.st [.arr .u64 8]), .v (.lst true 1)] → Option (Rc.I (.pure (.one (.t (.v (.st [.arr .u64 8])))) 2)) := fun ((v0, v1) : ((List Int) × (List V))) =>
  if 128 ≤ List.length v1 then
    (intsOf .u8 128 v1).bind fun v2 =>
    (F_sha512_Block (fitI (fitI v0 0 8) 0 8, List.take 128 (arrV .u8 v2 0 128)) : Option (List Int)).bind fun (v3 : (List Int)) =>
      some (fitI v3 0 8)
  else
    none
noncomputable def fn_hash_wide_1 : Fn := ⟨163, [.v (.st [.arr .u64 8]), .v (.lst true 1)], .pure (.one (.t (.v (.st [.arr .u64 8])))) 2, F_hash_wide_1⟩
theorem t_hash_wide_1 : GoodAt Try.prog HH HSP 4 fn_hash_wide_1 := goodAt_of (ho := HO) (l := [fn_sha512_Block]) rfl (hl1 (t_sha512_Block.up (by decide)) hl0) fun x => by kernel_rfl

noncomputable def F_sha512_Start : Ps [.v .bool] → Option (Rc.I (.pure (.one (.t (.v (.st [.arr .u64 8])))) 1)) := fun (v0 : Bool) =>
  if v0 = true then
    some ([7640891576956012808, 13503953896175478587, 4354685564936845355, 11912009170470909681, 5840696475078001361, 11170449401992604703, 2270897969802886507, 6620516959819538809])
  else
    some ([14680500436340154072, 7105036623409894663, 10473403895298186519, 1526699215303891257, 7436329637833083697, 10282925794625328401, 15784041429090275239, 5167115440072839076])
noncomputable def fn_sha512_Start : Fn := ⟨162, [.v .bool], .pure (.one (.t (.v (.st [.arr .u64 8])))) 1, F_sha512_Start⟩
theorem t_sha512_Start : GoodAt Try.prog HH HSP 1 fn_sha512_Start := goodAt_of (ho := HO) (l := []) rfl hl0 fun x => by kernel_rfl

noncomputable def F_math_bits_RotateLeft32 : Ps [.v (.int .u32), .v (.int .i64)] → Option (Rc.I (.pure (.one (.t (.v (.int .u32)))) 2)) := fun ((v0, v1) : (Int × Int)) =>
  if wu64 (32 - wordAnd .u64 (wu64 v1) 31) < 0 then
    none
  else
    some (wordOr .u32 (wordShl .u32 v0 (wordAnd .u64 (wu64 v1) 31)) (wordShr .u32 v0 (wu64 (32 - wordAnd .u64 (wu64 v1) 31))))
noncomputable def fn_math_bits_RotateLeft32 : Fn := ⟨185, [.v (.int .u32), .v (.int .i64)], .pure (.one (.t (.v (.int .u32)))) 2, F_math_bits_RotateLeft32⟩
theorem t_math_bits_RotateLeft32 : GoodAt Try.prog HH HSP 1 fn_math_bits_RotateLeft32 := goodAt_of (ho := HO) (l := []) rfl hl0 fun x => by kernel_rfl

noncomputable def F_sha256_spread : Ps [.v .agg] → Option (Rc.I (.pure (.one (.t (.v .agg))) 1)) := fun (v0 : (List V)) =>
  if List.length v0 = 64 ∧ List.all v0 V.one = true then
    if 64 ≤ List.length (List.map T.p v0) ∧ idN 0 < 64 then
      (elemsS.T.pures (List.take 64 (List.drop 0 (List.map T.p v0)))).bind fun v1 =>
      loopO (σ := ((List T) × ((List V) × Int))) (R := (List V)) (fun (v2, v3, v4) =>
          if decide (v4 < 64) = true then
            if 0 ≤ v4 ∧ v4 < 64 then
              (v3[Int.toNat v4]?).bind fun v5 =>
              (V.int? .u8 v5).bind fun v6 =>
                if 0 ≤ w64 (Int.tdiv v4 4) ∧ w64 (Int.tdiv v4 4) < 64 then
                    if 0 + Int.toNat (w64 (Int.tdiv v4 4)) * 1 < List.length v2 then
                      (v2[0 + Int.toNat (w64 (Int.tdiv v4 4)) * 1]?).bind fun v7 =>
                      (T.val? v7).bind fun v8 =>
                        (V.int? .u32 v8).bind fun v9 =>
                          if 0 ≤ w64 (Int.tdiv v4 4) ∧ w64 (Int.tdiv v4 4) < 64 then
                              if 0 + Int.toNat (w64 (Int.tdiv v4 4)) * 1 < List.length v2 then
                                if 0 + Int.toNat (w64 (Int.tdiv v4 4)) * 1 < List.length v2 then
                                  some (.inl ((List.set v2 (0 + Int.toNat (w64 (Int.tdiv v4 4)) * 1) (T.p (V.int .u32 (wordOr .u32 (wordShl .u32 v9 8) (wu32 v6)))), v3, w64 (v4 + 1))))
                                else
                                  none
                              else
                                none
                            else
                              none
                    else
                      none
                  else
                    none
            else
              none
          else
            (loopO (σ := ((List T) × Int)) (R := (List V)) (fun (v10, v11) =>
                if decide (v11 < 64) = true then
                  if 0 ≤ w64 (v11 - 15) ∧ w64 (v11 - 15) < 64 then
                    if 0 + Int.toNat (w64 (v11 - 15)) * 1 < List.length v10 then
                      (v10[0 + Int.toNat (w64 (v11 - 15)) * 1]?).bind fun v12 =>
                      (T.val? v12).bind fun v13 =>
                        (V.int? .u32 v13).bind fun v14 =>
                          if 0 ≤ w64 (v11 - 2) ∧ w64 (v11 - 2) < 64 then
                              if 0 + Int.toNat (w64 (v11 - 2)) * 1 < List.length v10 then
                                (v10[0 + Int.toNat (w64 (v11 - 2)) * 1]?).bind fun v15 =>
                                (T.val? v15).bind fun v16 =>
                                  (V.int? .u32 v16).bind fun v17 =>
                                    (F_math_bits_RotateLeft32 (v14, -7) : Option Int).bind fun (v18 : Int) =>
                                      (F_math_bits_RotateLeft32 (v14, -18) : Option Int).bind fun (v19 : Int) =>
                                        (F_math_bits_RotateLeft32 (v17, -17) : Option Int).bind fun (v20 : Int) =>
                                          (F_math_bits_RotateLeft32 (v17, -19) : Option Int).bind fun (v21 : Int) =>
                                            if 0 ≤ w64 (v11 - 16) ∧ w64 (v11 - 16) < 64 then
                                                if 0 + Int.toNat (w64 (v11 - 16)) * 1 < List.length v10 then
                                                  (v10[0 + Int.toNat (w64 (v11 - 16)) * 1]?).bind fun v22 =>
                                                  (T.val? v22).bind fun v23 =>
                                                    (V.int? .u32 v23).bind fun v24 =>
                                                      if 0 ≤ w64 (v11 - 7) ∧ w64 (v11 - 7) < 64 then
                                                          if 0 + Int.toNat (w64 (v11 - 7)) * 1 < List.length v10 then
                                                            (v10[0 + Int.toNat (w64 (v11 - 7)) * 1]?).bind fun v25 =>
                                                            (T.val? v25).bind fun v26 =>
                                                              (V.int? .u32 v26).bind fun v27 =>
                                                                if 0 ≤ v11 ∧ v11 < 64 then
                                                                    if 0 + Int.toNat v11 * 1 < List.length v10 then
                                                                      if 0 + Int.toNat v11 * 1 < List.length v10 then
                                                                        some (.inl ((List.set v10 (0 + Int.toNat v11 * 1) (T.p (V.int .u32 (wu32 (wu32 (wu32 (v24 + wordXor .u32 (wordXor .u32 v18 v19) (wordShr .u32 v14 3)) + v27) + wordXor .u32 (wordXor .u32 v20 v21) (wordShr .u32 v17 10))))), w64 (v11 + 1))))
                                                                      else
                                                                        none
                                                                    else
                                                                      none
                                                                  else
                                                                    none
                                                          else
                                                            none
                                                        else
                                                          none
                                                else
                                                  none
                                              else
                                                none
                              else
                                none
                            else
                              none
                    else
                      none
                  else
                    none
                else
                  (if 64 ≤ List.length v10 ∧ idN 0 < 64 then
                      (elemsS.T.pures (List.take 64 (List.drop 0 v10))).bind fun v28 =>
                      if List.length v28 = 64 ∧ List.length (rep 64 (T.p (V.int .u32 0))) = 64 then
                          (elemsS.T.pures (List.map T.p v28)).bind fun v29 =>
                          if 64 = List.length v29 ∧ idN 0 < 64 then
                              if V.stabL v29 = true then
                                some (v29)
                              else
                                none
                            else
                              none
                        else
                          none
                    else
                      none : Option (List V)).bind fun v30 =>
                  some (.inr (v30))) ((v2, 16)) : Option (List V)).bind fun v31 =>
            some (.inr (v31))) ((rep 64 (T.p (V.int .u32 0)), v1, 0))
    else
      none
  else
    none
noncomputable def fn_sha256_spread : Fn := ⟨188, [.v .agg], .pure (.one (.t (.v .agg))) 1, F_sha256_spread⟩
theorem t_sha256_spread : GoodAt Try.prog HH HSP 2 fn_sha256_spread := goodAt_of (ho := HO) (l := [fn_math_bits_RotateLeft32]) rfl (hl1 (t_math_bits_RotateLeft32.up (by decide)) hl0) fun x => by kernel_rfl

noncomputable def F_sha256_steps : Ps [] → Option (Rc.I (.pure (.one (.t (.v .agg))) 0)) := fun (v0 : Unit) =>
  some ([V.int .u32 1116352408, V.int .u32 1899447441, V.int .u32 3049323471, V.int .u32 3921009573, V.int .u32 961987163, V.int .u32 1508970993, V.int .u32 2453635748, V.int .u32 2870763221, V.int .u32 3624381080, V.int .u32 310598401, V.int .u32 607225278, V.int .u32 1426881987, V.int .u32 1925078388, V.int .u32 2162078206, V.int .u32 2614888103, V.int .u32 3248222580, V.int .u32 3835390401, V.int .u32 4022224774, V.int .u32 264347078, V.int .u32 604807628, V.int .u32 770255983, V.int .u32 1249150122, V.int .u32 1555081692, V.int .u32 1996064986, V.int .u32 2554220882, V.int .u32 2821834349, V.int .u32 2952996808, V.int .u32 3210313671, V.int .u32 3336571891, V.int .u32 3584528711, V.int .u32 113926993, V.int .u32 338241895, V.int .u32 666307205, V.int .u32 773529912, V.int .u32 1294757372, V.int .u32 1396182291, V.int .u32 1695183700, V.int .u32 1986661051, V.int .u32 2177026350, V.int .u32 2456956037, V.int .u32 2730485921, V.int .u32 2820302411, V.int .u32 3259730800, V.int .u32 3345764771, V.int .u32 3516065817, V.int .u32 3600352804, V.int .u32 4094571909, V.int .u32 275423344, V.int .u32 430227734, V.int .u32 506948616, V.int .u32 659060556, V.int .u32 883997877, V.int .u32 958139571, V.int .u32 1322822218, V.int .u32 1537002063, V.int .u32 1747873779, V.int .u32 1955562222, V.int .u32 2024104815, V.int .u32 2227730452, V.int .u32 2361852424, V.int .u32 2428436474, V.int .u32 2756734187, V.int .u32 3204031479, V.int .u32 3329325298])
noncomputable def fn_sha256_steps : Fn := ⟨187, [], .pure (.one (.t (.v .agg))) 0, F_sha256_steps⟩
theorem t_sha256_steps : GoodAt Try.prog HH HSP 1 fn_sha256_steps := goodAt_of (ho := HO) (l := []) rfl hl0 fun x => by kernel_rfl

noncomputable def F_sha256_Block : Ps [.v (.st [.arr .u32 8]), .v .agg] → Option (Rc.I (.pure (.one (.t (.v (.st [.arr .u32 8])))) 2)) := fun ((v0, v1) : ((List Int) × (List V))) =>
  if List.length v1 = 64 ∧ List.all v1 V.one = true then
    (F_sha256_steps PUnit.unit : Option (List V)).bind fun (v2 : (List V)) =>
    if List.length v2 = 64 ∧ List.length (rep 64 (T.p (V.int .u32 0))) = 64 then
        if 64 ≤ List.length (List.map T.p v1) ∧ idN 0 < 64 then
          (elemsS.T.pures (List.take 64 (List.drop 0 (List.map T.p v1)))).bind fun v3 =>
          (F_sha256_spread v3 : Option (List V)).bind fun (v4 : (List V)) =>
            loopO (σ := ((List T) × ((List Int) × ((List V) × Int)))) (R := (List Int)) (fun (v5, v6, v7, v8) =>
                if decide (v8 < 64) = true then
                  if 0 ≤ v8 ∧ v8 < 64 then
                    (v7[Int.toNat v8]?).bind fun v9 =>
                    (V.int? .u32 v9).bind fun v10 =>
                      (F_math_bits_RotateLeft32 (List.getD v6 4 0, -6) : Option Int).bind fun (v11 : Int) =>
                        (F_math_bits_RotateLeft32 (List.getD v6 4 0, -11) : Option Int).bind fun (v12 : Int) =>
                          (F_math_bits_RotateLeft32 (List.getD v6 4 0, -25) : Option Int).bind fun (v13 : Int) =>
                            if 0 ≤ v8 ∧ v8 < 64 then
                                if 0 + Int.toNat v8 * 1 < List.length v5 then
                                  (v5[0 + Int.toNat v8 * 1]?).bind fun v14 =>
                                  (T.val? v14).bind fun v15 =>
                                    (V.int? .u32 v15).bind fun v16 =>
                                      (F_math_bits_RotateLeft32 (List.getD v6 0 0, -2) : Option Int).bind fun (v17 : Int) =>
                                        (F_math_bits_RotateLeft32 (List.getD v6 0 0, -13) : Option Int).bind fun (v18 : Int) =>
                                          (F_math_bits_RotateLeft32 (List.getD v6 0 0, -22) : Option Int).bind fun (v19 : Int) =>
                                            some (.inl ((v5, [wu32 (wu32 (wu32 (wu32 (wu32 (List.getD v6 7 0 + wordXor .u32 (wordXor .u32 v11 v12) v13) + wordXor .u32 (wordAnd .u32 (List.getD v6 4 0) (List.getD v6 5 0)) (wordAnd .u32 (wordXor .u32 (Int.ofNat (2 ^ 32 - Nat.succ 0)) (List.getD v6 4 0)) (List.getD v6 6 0))) + v16) + v10) + wu32 (wordXor .u32 (wordXor .u32 v17 v18) v19 + wordOr .u32 (wordAnd .u32 (List.getD v6 0 0) (List.getD v6 1 0)) (wordAnd .u32 (List.getD v6 2 0) (wordOr .u32 (List.getD v6 0 0) (List.getD v6 1 0))))), List.getD v6 0 0, List.getD v6 1 0, List.getD v6 2 0, wu32 (List.getD v6 3 0 + wu32 (wu32 (wu32 (wu32 (List.getD v6 7 0 + wordXor .u32 (wordXor .u32 v11 v12) v13) + wordXor .u32 (wordAnd .u32 (List.getD v6 4 0) (List.getD v6 5 0)) (wordAnd .u32 (wordXor .u32 (Int.ofNat (2 ^ 32 - Nat.succ 0)) (List.getD v6 4 0)) (List.getD v6 6 0))) + v16) + v10)), List.getD v6 4 0, List.getD v6 5 0, List.getD v6 6 0], v7, w64 (v8 + 1))))
                                else
                                  none
                              else
                                none
                  else
                    none
                else
                  (loopO (σ := ((List Int) × ((List Int) × Int))) (R := (List Int)) (fun (v20, v21, v22) =>
                      if decide (v22 < 8) = true then
                        if 0 ≤ v22 ∧ v22 < 8 then
                          if 0 + Int.toNat v22 * 1 < 8 then
                            ([T.p (V.int .u32 (List.getD v21 0 0)), T.p (V.int .u32 (List.getD v21 1 0)), T.p (V.int .u32 (List.getD v21 2 0)), T.p (V.int .u32 (List.getD v21 3 0)), T.p (V.int .u32 (List.getD v21 4 0)), T.p (V.int .u32 (List.getD v21 5 0)), T.p (V.int .u32 (List.getD v21 6 0)), T.p (V.int .u32 (List.getD v21 7 0))][0 + Int.toNat v22 * 1]?).bind fun v23 =>
                            (T.val? v23).bind fun v24 =>
                              (V.int? .u32 v24).bind fun v25 =>
                                if 0 ≤ v22 ∧ v22 < 8 then
                                    if 0 + Int.toNat v22 * 1 < 8 then
                                      ([T.p (V.int .u32 (List.getD v20 0 0)), T.p (V.int .u32 (List.getD v20 1 0)), T.p (V.int .u32 (List.getD v20 2 0)), T.p (V.int .u32 (List.getD v20 3 0)), T.p (V.int .u32 (List.getD v20 4 0)), T.p (V.int .u32 (List.getD v20 5 0)), T.p (V.int .u32 (List.getD v20 6 0)), T.p (V.int .u32 (List.getD v20 7 0))][0 + Int.toNat v22 * 1]?).bind fun v26 =>
                                      (T.val? v26).bind fun v27 =>
                                        (V.int? .u32 v27).bind fun v28 =>
                                          if 0 ≤ v22 ∧ v22 < 8 then
                                              if 0 + Int.toNat v22 * 1 < 8 then
                                                if 0 + Int.toNat v22 * 1 < 8 then
                                                  (((((elemsS.T.pures (List.take 8 (List.set [T.p (V.int .u32 (List.getD v21 0 0)), T.p (V.int .u32 (List.getD v21 1 0)), T.p (V.int .u32 (List.getD v21 2 0)), T.p (V.int .u32 (List.getD v21 3 0)), T.p (V.int .u32 (List.getD v21 4 0)), T.p (V.int .u32 (List.getD v21 5 0)), T.p (V.int .u32 (List.getD v21 6 0)), T.p (V.int .u32 (List.getD v21 7 0))] (0 + Int.toNat v22 * 1) (T.p (V.int .u32 (wu32 (v25 + v28))))))).bind fun v29 =>
                                                          (intsOf .u32 8 v29).bind fun v30 =>
                                                            some ((v30, List.drop 8 (List.set [T.p (V.int .u32 (List.getD v21 0 0)), T.p (V.int .u32 (List.getD v21 1 0)), T.p (V.int .u32 (List.getD v21 2 0)), T.p (V.int .u32 (List.getD v21 3 0)), T.p (V.int .u32 (List.getD v21 4 0)), T.p (V.int .u32 (List.getD v21 5 0)), T.p (V.int .u32 (List.getD v21 6 0)), T.p (V.int .u32 (List.getD v21 7 0))] (0 + Int.toNat v22 * 1) (T.p (V.int .u32 (wu32 (v25 + v28))))))) : Option ((List Int) × (List T))).bind fun (v31, v32) =>
                                                        match v32 with
                                                          | [] =>
                                                            some (v31)
                                                          | v33 :: v34 =>
                                                            none : Option (List Int)).bind fun v35 =>
                                                      some ((v35, w64 (v22 + 1))) : Option ((List Int) × Int)).bind fun (v36, v37) =>
                                                    some ((fitI v20 0 8, v36, v37)) : Option ((List Int) × ((List Int) × Int))).bind fun (v38, v39, v40) =>
                                                  some (.inl ((v38, v39, v40)))
                                                else
                                                  none
                                              else
                                                none
                                            else
                                              none
                                    else
                                      none
                                  else
                                    none
                          else
                            none
                        else
                          none
                      else
                        some (.inr (fitI (fitI v21 0 8) 0 8))) ((fitI v0 0 8, fitI v6 0 8, 0)) : Option (List Int)).bind fun v41 =>
                  some (.inr (v41))) ((List.map T.p v2, fitI (fitI v0 0 8) 0 8, v4, 0))
        else
          none
      else
        none
  else
    none
noncomputable def fn_sha256_Block : Fn := ⟨160, [.v (.st [.arr .u32 8]), .v .agg], .pure (.one (.t (.v (.st [.arr .u32 8])))) 2, F_sha256_Block⟩
theorem t_sha256_Block : GoodAt Try.prog HH HSP 3 fn_sha256_Block := goodAt_of (ho := HO) (l := [fn_sha256_steps, fn_sha256_spread, fn_math_bits_RotateLeft32]) rfl (hl1 (t_sha256_steps.up (by decide)) (hl1 (t_sha256_spread.up (by decide)) (hl1 (t_math_bits_RotateLeft32.up (by decide)) hl0))) fun x => by kernel_rfl

noncomputable def F_hash_short_1 : Ps [.v (.st [.arr .u32 8]), .v (.lst true 1)] → Option (Rc.I (.pure (.one (.t (.v (.st [.arr .u32 8])))) 2)) := fun ((v0, v1) : ((List Int) × (List V))) =>
  if 64 ≤ List.length v1 then
    (intsOf .u8 64 v1).bind fun v2 =>
    (F_sha256_Block (fitI (fitI v0 0 8) 0 8, List.take 64 (arrV .u8 v2 0 64)) : Option (List Int)).bind fun (v3 : (List Int)) =>
      some (fitI v3 0 8)
  else
    none
noncomputable def fn_hash_short_1 : Fn := ⟨159, [.v (.st [.arr .u32 8]), .v (.lst true 1)], .pure (.one (.t (.v (.st [.arr .u32 8])))) 2, F_hash_short_1⟩
theorem t_hash_short_1 : GoodAt Try.prog HH HSP 4 fn_hash_short_1 := goodAt_of (ho := HO) (l := [fn_sha256_Block]) rfl (hl1 (t_sha256_Block.up (by decide)) hl0) fun x => by kernel_rfl

noncomputable def F_sha256_Start : Ps [.v .bool] → Option (Rc.I (.pure (.one (.t (.v (.st [.arr .u32 8])))) 1)) := fun (v0 : Bool) =>
  if v0 = true then
    some ([1779033703, 3144134277, 1013904242, 2773480762, 1359893119, 2600822924, 528734635, 1541459225])
  else
    some ([3238371032, 914150663, 812702999, 4144912697, 4290775857, 1750603025, 1694076839, 3204075428])
noncomputable def fn_sha256_Start : Fn := ⟨158, [.v .bool], .pure (.one (.t (.v (.st [.arr .u32 8])))) 1, F_sha256_Start⟩
theorem t_sha256_Start : GoodAt Try.prog HH HSP 1 fn_sha256_Start := goodAt_of (ho := HO) (l := []) rfl hl0 fun x => by kernel_rfl

noncomputable def F_hash_old_2 : Ps [.v (.st [.arr .u32 5])] → Option (Rc.I (.pure (.one (.t (.own 5))) 1)) := fun (v0 : (List Int)) =>
  (F_hash_spell_uint32_ ([V.int .u32 (List.getD v0 0 0), V.int .u32 (List.getD v0 1 0), V.int .u32 (List.getD v0 2 0), V.int .u32 (List.getD v0 3 0), V.int .u32 (List.getD v0 4 0)], 4, 20) : Option (List V)).bind fun (v1 : (List V)) =>
  some (v1)
noncomputable def fn_hash_old_2 : Fn := ⟨156, [.v (.st [.arr .u32 5])], .pure (.one (.t (.own 5))) 1, F_hash_old_2⟩
theorem t_hash_old_2 : GoodAt Try.prog HH HSP 2 fn_hash_old_2 := goodAt_of (ho := HO) (l := [fn_hash_spell_uint32_]) rfl (hl1 (t_hash_spell_uint32_.up (by decide)) hl0) fun x => by kernel_rfl

noncomputable def F_sha1_mix : Ps [.v (.int .i64), .v (.int .u32), .v (.int .u32), .v (.int .u32)] → Option (Rc.I (.pure (.one (.t (.v (.int .u32)))) 4)) := fun ((v0, v1, v2, v3) : (Int × (Int × (Int × Int)))) =>
  if (w64 (Int.tdiv v0 20) == 0) = true then
    some (wordXor .u32 v3 (wordAnd .u32 v1 (wordXor .u32 v2 v3)))
  else
    if (w64 (Int.tdiv v0 20) == 2) = true then
      some (wordOr .u32 (wordAnd .u32 v1 v2) (wordAnd .u32 v3 (wordOr .u32 v1 v2)))
    else
      some (wordXor .u32 (wordXor .u32 v1 v2) v3)
noncomputable def fn_sha1_mix : Fn := ⟨186, [.v (.int .i64), .v (.int .u32), .v (.int .u32), .v (.int .u32)], .pure (.one (.t (.v (.int .u32)))) 4, F_sha1_mix⟩
theorem t_sha1_mix : GoodAt Try.prog HH HSP 1 fn_sha1_mix := goodAt_of (ho := HO) (l := []) rfl hl0 fun x => by kernel_rfl

noncomputable def F_sha1_spread : Ps [.v .agg] → Option (Rc.I (.pure (.one (.t (.v .agg))) 1)) := fun (v0 : (List V)) =>
  if List.length v0 = 64 ∧ List.all v0 V.one = true then
    if 64 ≤ List.length (List.map T.p v0) ∧ idN 0 < 64 then
      (elemsS.T.pures (List.take 64 (List.drop 0 (List.map T.p v0)))).bind fun v1 =>
      loopO (σ := ((List T) × ((List V) × Int))) (R := (List V)) (fun (v2, v3, v4) =>
          if decide (v4 < 64) = true then
            if 0 ≤ v4 ∧ v4 < 64 then
              (v3[Int.toNat v4]?).bind fun v5 =>
              (V.int? .u8 v5).bind fun v6 =>
                if 0 ≤ w64 (Int.tdiv v4 4) ∧ w64 (Int.tdiv v4 4) < 80 then
                    if 0 + Int.toNat (w64 (Int.tdiv v4 4)) * 1 < List.length v2 then
                      (v2[0 + Int.toNat (w64 (Int.tdiv v4 4)) * 1]?).bind fun v7 =>
                      (T.val? v7).bind fun v8 =>
                        (V.int? .u32 v8).bind fun v9 =>
                          if 0 ≤ w64 (Int.tdiv v4 4) ∧ w64 (Int.tdiv v4 4) < 80 then
                              if 0 + Int.toNat (w64 (Int.tdiv v4 4)) * 1 < List.length v2 then
                                if 0 + Int.toNat (w64 (Int.tdiv v4 4)) * 1 < List.length v2 then
                                  some (.inl ((List.set v2 (0 + Int.toNat (w64 (Int.tdiv v4 4)) * 1) (T.p (V.int .u32 (wordOr .u32 (wordShl .u32 v9 8) (wu32 v6)))), v3, w64 (v4 + 1))))
                                else
                                  none
                              else
                                none
                            else
                              none
                    else
                      none
                  else
                    none
            else
              none
          else
            (loopO (σ := ((List T) × Int)) (R := (List V)) (fun (v10, v11) =>
                if decide (v11 < 80) = true then
                  if 0 ≤ w64 (v11 - 3) ∧ w64 (v11 - 3) < 80 then
                    if 0 + Int.toNat (w64 (v11 - 3)) * 1 < List.length v10 then
                      (v10[0 + Int.toNat (w64 (v11 - 3)) * 1]?).bind fun v12 =>
                      (T.val? v12).bind fun v13 =>
                        (V.int? .u32 v13).bind fun v14 =>
                          if 0 ≤ w64 (v11 - 8) ∧ w64 (v11 - 8) < 80 then
                              if 0 + Int.toNat (w64 (v11 - 8)) * 1 < List.length v10 then
                                (v10[0 + Int.toNat (w64 (v11 - 8)) * 1]?).bind fun v15 =>
                                (T.val? v15).bind fun v16 =>
                                  (V.int? .u32 v16).bind fun v17 =>
                                    if 0 ≤ w64 (v11 - 14) ∧ w64 (v11 - 14) < 80 then
                                        if 0 + Int.toNat (w64 (v11 - 14)) * 1 < List.length v10 then
                                          (v10[0 + Int.toNat (w64 (v11 - 14)) * 1]?).bind fun v18 =>
                                          (T.val? v18).bind fun v19 =>
                                            (V.int? .u32 v19).bind fun v20 =>
                                              if 0 ≤ w64 (v11 - 16) ∧ w64 (v11 - 16) < 80 then
                                                  if 0 + Int.toNat (w64 (v11 - 16)) * 1 < List.length v10 then
                                                    (v10[0 + Int.toNat (w64 (v11 - 16)) * 1]?).bind fun v21 =>
                                                    (T.val? v21).bind fun v22 =>
                                                      (V.int? .u32 v22).bind fun v23 =>
                                                        (F_math_bits_RotateLeft32 (wordXor .u32 (wordXor .u32 (wordXor .u32 v14 v17) v20) v23, 1) : Option Int).bind fun (v24 : Int) =>
                                                          if 0 ≤ v11 ∧ v11 < 80 then
                                                              if 0 + Int.toNat v11 * 1 < List.length v10 then
                                                                if 0 + Int.toNat v11 * 1 < List.length v10 then
                                                                  some (.inl ((List.set v10 (0 + Int.toNat v11 * 1) (T.p (V.int .u32 v24)), w64 (v11 + 1))))
                                                                else
                                                                  none
                                                              else
                                                                none
                                                            else
                                                              none
                                                  else
                                                    none
                                                else
                                                  none
                                        else
                                          none
                                      else
                                        none
                              else
                                none
                            else
                              none
                    else
                      none
                  else
                    none
                else
                  (if 80 ≤ List.length v10 ∧ idN 0 < 80 then
                      (elemsS.T.pures (List.take 80 (List.drop 0 v10))).bind fun v25 =>
                      if List.length v25 = 80 ∧ List.length (rep 80 (T.p (V.int .u32 0))) = 80 then
                          (elemsS.T.pures (List.map T.p v25)).bind fun v26 =>
                          if 80 = List.length v26 ∧ idN 0 < 80 then
                              if V.stabL v26 = true then
                                some (v26)
                              else
                                none
                            else
                              none
                        else
                          none
                    else
                      none : Option (List V)).bind fun v27 =>
                  some (.inr (v27))) ((v2, 16)) : Option (List V)).bind fun v28 =>
            some (.inr (v28))) ((rep 80 (T.p (V.int .u32 0)), v1, 0))
    else
      none
  else
    none
noncomputable def fn_sha1_spread : Fn := ⟨184, [.v .agg], .pure (.one (.t (.v .agg))) 1, F_sha1_spread⟩
theorem t_sha1_spread : GoodAt Try.prog HH HSP 2 fn_sha1_spread := goodAt_of (ho := HO) (l := [fn_math_bits_RotateLeft32]) rfl (hl1 (t_math_bits_RotateLeft32.up (by decide)) hl0) fun x => by kernel_rfl

noncomputable def F_sha1_Block : Ps [.v (.st [.arr .u32 5]), .v .agg] → Option (Rc.I (.pure (.one (.t (.v (.st [.arr .u32 5])))) 2)) := fun ((v0, v1) : ((List Int) × (List V))) =>
  if List.length v1 = 64 ∧ List.all v1 V.one = true then
    if 64 ≤ List.length (List.map T.p v1) ∧ idN 0 < 64 then
      (elemsS.T.pures (List.take 64 (List.drop 0 (List.map T.p v1)))).bind fun v2 =>
      (F_sha1_spread v2 : Option (List V)).bind fun (v3 : (List V)) =>
        loopO (σ := ((List Int) × ((List Int) × ((List V) × Int)))) (R := (List Int)) (fun (v4, v5, v6, v7) =>
            if decide (v7 < 80) = true then
              if 0 ≤ v7 ∧ v7 < 80 then
                (v6[Int.toNat v7]?).bind fun v8 =>
                (V.int? .u32 v8).bind fun v9 =>
                  (F_math_bits_RotateLeft32 (List.getD v5 0 0, 5) : Option Int).bind fun (v10 : Int) =>
                    (F_sha1_mix (v7, List.getD v5 1 0, List.getD v5 2 0, List.getD v5 3 0) : Option Int).bind fun (v11 : Int) =>
                      if 0 ≤ w64 (Int.tdiv v7 20) ∧ w64 (Int.tdiv v7 20) < 4 then
                          if 0 + Int.toNat (w64 (Int.tdiv v7 20)) * 1 < 4 then
                            ([T.p (V.int .u32 (List.getD v4 0 0)), T.p (V.int .u32 (List.getD v4 1 0)), T.p (V.int .u32 (List.getD v4 2 0)), T.p (V.int .u32 (List.getD v4 3 0))][0 + Int.toNat (w64 (Int.tdiv v7 20)) * 1]?).bind fun v12 =>
                            (T.val? v12).bind fun v13 =>
                              (V.int? .u32 v13).bind fun v14 =>
                                (F_math_bits_RotateLeft32 (List.getD v5 1 0, 30) : Option Int).bind fun (v15 : Int) =>
                                  some (.inl (([List.getD v4 0 0, List.getD v4 1 0, List.getD v4 2 0, List.getD v4 3 0], [wu32 (wu32 (wu32 (wu32 (v10 + v11) + List.getD v5 4 0) + v14) + v9), List.getD v5 0 0, v15, List.getD v5 2 0, List.getD v5 3 0], v6, w64 (v7 + 1))))
                          else
                            none
                        else
                          none
              else
                none
            else
              (loopO (σ := ((List Int) × ((List Int) × Int))) (R := (List Int)) (fun (v16, v17, v18) =>
                  if decide (v18 < 5) = true then
                    if 0 ≤ v18 ∧ v18 < 5 then
                      if 0 + Int.toNat v18 * 1 < 5 then
                        ([T.p (V.int .u32 (List.getD v17 0 0)), T.p (V.int .u32 (List.getD v17 1 0)), T.p (V.int .u32 (List.getD v17 2 0)), T.p (V.int .u32 (List.getD v17 3 0)), T.p (V.int .u32 (List.getD v17 4 0))][0 + Int.toNat v18 * 1]?).bind fun v19 =>
                        (T.val? v19).bind fun v20 =>
                          (V.int? .u32 v20).bind fun v21 =>
                            if 0 ≤ v18 ∧ v18 < 5 then
                                if 0 + Int.toNat v18 * 1 < 5 then
                                  ([T.p (V.int .u32 (List.getD v16 0 0)), T.p (V.int .u32 (List.getD v16 1 0)), T.p (V.int .u32 (List.getD v16 2 0)), T.p (V.int .u32 (List.getD v16 3 0)), T.p (V.int .u32 (List.getD v16 4 0))][0 + Int.toNat v18 * 1]?).bind fun v22 =>
                                  (T.val? v22).bind fun v23 =>
                                    (V.int? .u32 v23).bind fun v24 =>
                                      if 0 ≤ v18 ∧ v18 < 5 then
                                          if 0 + Int.toNat v18 * 1 < 5 then
                                            if 0 + Int.toNat v18 * 1 < 5 then
                                              (((((elemsS.T.pures (List.take 5 (List.set [T.p (V.int .u32 (List.getD v17 0 0)), T.p (V.int .u32 (List.getD v17 1 0)), T.p (V.int .u32 (List.getD v17 2 0)), T.p (V.int .u32 (List.getD v17 3 0)), T.p (V.int .u32 (List.getD v17 4 0))] (0 + Int.toNat v18 * 1) (T.p (V.int .u32 (wu32 (v21 + v24))))))).bind fun v25 =>
                                                      (intsOf .u32 5 v25).bind fun v26 =>
                                                        some ((v26, List.drop 5 (List.set [T.p (V.int .u32 (List.getD v17 0 0)), T.p (V.int .u32 (List.getD v17 1 0)), T.p (V.int .u32 (List.getD v17 2 0)), T.p (V.int .u32 (List.getD v17 3 0)), T.p (V.int .u32 (List.getD v17 4 0))] (0 + Int.toNat v18 * 1) (T.p (V.int .u32 (wu32 (v21 + v24))))))) : Option ((List Int) × (List T))).bind fun (v27, v28) =>
                                                    match v28 with
                                                      | [] =>
                                                        some (v27)
                                                      | v29 :: v30 =>
                                                        none : Option (List Int)).bind fun v31 =>
                                                  some ((v31, w64 (v18 + 1))) : Option ((List Int) × Int)).bind fun (v32, v33) =>
                                                some (([List.getD v16 0 0, List.getD v16 1 0, List.getD v16 2 0, List.getD v16 3 0, List.getD v16 4 0], v32, v33)) : Option ((List Int) × ((List Int) × Int))).bind fun (v34, v35, v36) =>
                                              some (.inl ((v34, v35, v36)))
                                            else
                                              none
                                          else
                                            none
                                        else
                                          none
                                else
                                  none
                              else
                                none
                      else
                        none
                    else
                      none
                  else
                    some (.inr ([List.getD [List.getD v17 0 0, List.getD v17 1 0, List.getD v17 2 0, List.getD v17 3 0, List.getD v17 4 0] 0 0, List.getD [List.getD v17 0 0, List.getD v17 1 0, List.getD v17 2 0, List.getD v17 3 0, List.getD v17 4 0] 1 0, List.getD [List.getD v17 0 0, List.getD v17 1 0, List.getD v17 2 0, List.getD v17 3 0, List.getD v17 4 0] 2 0, List.getD [List.getD v17 0 0, List.getD v17 1 0, List.getD v17 2 0, List.getD v17 3 0, List.getD v17 4 0] 3 0, List.getD [List.getD v17 0 0, List.getD v17 1 0, List.getD v17 2 0, List.getD v17 3 0, List.getD v17 4 0] 4 0]))) (([List.getD v0 0 0, List.getD v0 1 0, List.getD v0 2 0, List.getD v0 3 0, List.getD v0 4 0], [List.getD v5 0 0, List.getD v5 1 0, List.getD v5 2 0, List.getD v5 3 0, List.getD v5 4 0], 0)) : Option (List Int)).bind fun v37 =>
              some (.inr (v37))) (([1518500249, 1859775393, 2400959708, 3395469782], [List.getD [List.getD v0 0 0, List.getD v0 1 0, List.getD v0 2 0, List.getD v0 3 0, List.getD v0 4 0] 0 0, List.getD [List.getD v0 0 0, List.getD v0 1 0, List.getD v0 2 0, List.getD v0 3 0, List.getD v0 4 0] 1 0, List.getD [List.getD v0 0 0, List.getD v0 1 0, List.getD v0 2 0, List.getD v0 3 0, List.getD v0 4 0] 2 0, List.getD [List.getD v0 0 0, List.getD v0 1 0, List.getD v0 2 0, List.getD v0 3 0, List.getD v0 4 0] 3 0, List.getD [List.getD v0 0 0, List.getD v0 1 0, List.getD v0 2 0, List.getD v0 3 0, List.getD v0 4 0] 4 0], v3, 0))
    else
      none
  else
    none
noncomputable def fn_sha1_Block : Fn := ⟨155, [.v (.st [.arr .u32 5]), .v .agg], .pure (.one (.t (.v (.st [.arr .u32 5])))) 2, F_sha1_Block⟩
theorem t_sha1_Block : GoodAt Try.prog HH HSP 3 fn_sha1_Block := goodAt_of (ho := HO) (l := [fn_sha1_spread, fn_math_bits_RotateLeft32, fn_sha1_mix]) rfl (hl1 (t_sha1_spread.up (by decide)) (hl1 (t_math_bits_RotateLeft32.up (by decide)) (hl1 (t_sha1_mix.up (by decide)) hl0))) fun x => by kernel_rfl

noncomputable def F_hash_old_1 : Ps [.v (.st [.arr .u32 5]), .v (.lst true 1)] → Option (Rc.I (.pure (.one (.t (.v (.st [.arr .u32 5])))) 2)) := fun ((v0, v1) : ((List Int) × (List V))) =>
  if 64 ≤ List.length v1 then
    (intsOf .u8 64 v1).bind fun v2 =>
    (F_sha1_Block ([List.getD [List.getD v0 0 0, List.getD v0 1 0, List.getD v0 2 0, List.getD v0 3 0, List.getD v0 4 0] 0 0, List.getD [List.getD v0 0 0, List.getD v0 1 0, List.getD v0 2 0, List.getD v0 3 0, List.getD v0 4 0] 1 0, List.getD [List.getD v0 0 0, List.getD v0 1 0, List.getD v0 2 0, List.getD v0 3 0, List.getD v0 4 0] 2 0, List.getD [List.getD v0 0 0, List.getD v0 1 0, List.getD v0 2 0, List.getD v0 3 0, List.getD v0 4 0] 3 0, List.getD [List.getD v0 0 0, List.getD v0 1 0, List.getD v0 2 0, List.getD v0 3 0, List.getD v0 4 0] 4 0], List.take 64 (arrV .u8 v2 0 64)) : Option (List Int)).bind fun (v3 : (List Int)) =>
      some ([List.getD v3 0 0, List.getD v3 1 0, List.getD v3 2 0, List.getD v3 3 0, List.getD v3 4 0])
  else
    none
noncomputable def fn_hash_old_1 : Fn := ⟨154, [.v (.st [.arr .u32 5]), .v (.lst true 1)], .pure (.one (.t (.v (.st [.arr .u32 5])))) 2, F_hash_old_1⟩
theorem t_hash_old_1 : GoodAt Try.prog HH HSP 4 fn_hash_old_1 := goodAt_of (ho := HO) (l := [fn_sha1_Block]) rfl (hl1 (t_sha1_Block.up (by decide)) hl0) fun x => by kernel_rfl

noncomputable def F_sha1_Start : Ps [] → Option (Rc.I (.pure (.one (.t (.v (.st [.arr .u32 5])))) 0)) := fun (v0 : Unit) =>
  some ([1732584193, 4023233417, 2562383102, 271733878, 3285377520])
noncomputable def fn_sha1_Start : Fn := ⟨153, [], .pure (.one (.t (.v (.st [.arr .u32 5])))) 0, F_sha1_Start⟩
theorem t_sha1_Start : GoodAt Try.prog HH HSP 1 fn_sha1_Start := goodAt_of (ho := HO) (l := []) rfl hl0 fun x => by kernel_rfl

noncomputable def F_hash_Size : Ps [.v (.int .i64)] → Option (Rc.I (.pure (.one (.t (.v (.int .i64)))) 1)) := fun (v0 : Int) =>
  if (v0 == 2) = true then
    some (20)
  else
    if (v0 == 11) = true then
      some (28)
    else
      if (v0 == 8) = true then
        some (32)
      else
        if (v0 == 9) = true then
          some (48)
        else
          if (v0 == 10) = true then
            some (64)
          else
            some (0)
noncomputable def fn_hash_Size : Fn := ⟨131, [.v (.int .i64)], .pure (.one (.t (.v (.int .i64)))) 1, F_hash_Size⟩
theorem t_hash_Size : GoodAt Try.prog HH HSP 1 fn_hash_Size := goodAt_of (ho := HO) (l := []) rfl hl0 fun x => by kernel_rfl

noncomputable def F_hash_engine__8_uint64__sum : Ps [.ndR 187 [.arr .u64 8, .o (.v (.lst false 1)), .o (.v (.int .u64)), .o (.v (.int .i64)), .o (.v (.int .i64)), .o (.v (.fn0 163)), .o (.v (.clo1 165 (.int .i64)))]] → Option (Rc.I (.io (.one (.t (.own 5))) [.ndR 187 [.arr .u64 8, .o (.v (.lst false 1)), .o (.v (.int .u64)), .o (.v (.int .i64)), .o (.v (.int .i64)), .o (.v (.fn0 163)), .o (.v (.clo1 165 (.int .i64)))]])) := fun ((v0, v1, v2, v3, v4, v5, v6) : ((List Int) × ((List V) × (Int × (Int × (Int × (Unit × Int))))))) =>
  if 0 + List.length v1 ≤ 2147483648 then
    if List.length v1 + 1 ≤ 2147483648 then
      loopO (σ := (Unit × ((List V) × ((List Int) × ((List V) × (Int × (Int × (Int × (Unit × Int))))))))) (R := ((List V) × ((List Int) × ((List V) × (Int × (Int × (Int × (Unit × Int)))))))) (fun (v7, v8, v9, v10, v11, v12, v13, v14, v15) =>
        if v12 = 0 then
          none
        else
          if (Int.tmod (len v8) v12 != w64 (v12 - v13)) = true then
            if List.length (all v8) + 1 ≤ 2147483648 then
              some (.inl ((PUnit.unit, all v8 ++ [V.int .u8 0], fitI v9 0 8, v10, v11, v12, v13, PUnit.unit, v15)))
            else
              none
          else
            (if 0 ≤ w64 (v13 - 8) ∧ w64 (v13 - 8) ≤ 2147483648 then
                if List.length (all v8) + List.length (rep (Int.toNat (w64 (v13 - 8))) (V.int .u8 0)) ≤ 2147483648 then
                  loopO (σ := ((List V) × (Int × Int))) (R := ((List V) × ((List Int) × ((List V) × (Int × (Int × (Int × (Unit × Int)))))))) (fun (v16, v17, v18) =>
                    if decide (v18 ≥ 0) = true then
                      if v18 < 0 then
                        none
                      else
                        if List.length (all v16) + 1 ≤ 2147483648 then
                          some (.inl ((all v16 ++ [V.int .u8 (wu8 (wordShr .u64 v17 v18))], v17, w64 (v18 - 8))))
                        else
                          none
                    else
                      (loopO (σ := (Unit × ((List V) × ((List Int) × ((List Int) × ((List V) × (Int × (Int × (Int × (Unit × Int)))))))))) (R := ((List V) × ((List Int) × ((List V) × (Int × (Int × (Int × (Unit × Int)))))))) (fun (v19, v20, v21, v22, v23, v24, v25, v26, v27, v28) =>
                          if decide (len v20 > 0) = true then
                            if 0 ≤ v25 then
                              if 0 ≤ Int.toNat v25 ∧ Int.toNat v25 ≤ List.length v20 then
                                (F_hash_wide_1 (fitI (fitI v21 0 8) 0 8, List.take (Int.toNat v25) (List.drop 0 v20)) : Option (List Int)).bind fun (v29 : (List Int)) =>
                                if 0 ≤ v25 then
                                    if Int.toNat v25 ≤ List.length v20 ∧ List.length v20 ≤ List.length v20 then
                                      some (.inl ((PUnit.unit, List.take (List.length v20 - Int.toNat v25) (List.drop (0 + Int.toNat v25) v20), fitI v29 0 8, fitI v22 0 8, v23, v24, v25, v26, PUnit.unit, v28)))
                                    else
                                      none
                                  else
                                    none
                              else
                                none
                            else
                              none
                          else
                            ((F_hash_spell_uint64_ (arrV .u64 (fitI v21 0 8) 0 8, 8, v28) : Option (List V)).bind fun (v30 : (List V)) =>
                              some ((v30, fitI v22 0 8, v23, v24, v25, v26, PUnit.unit, v28)) : Option ((List V) × ((List Int) × ((List V) × (Int × (Int × (Int × (Unit × Int)))))))).bind fun (v31, v32, v33, v34, v35, v36, v37, v38) =>
                            some (.inr ((v31, v32, v33, v34, v35, v36, v37, v38)))) ((PUnit.unit, v16, fitI (fitI v9 0 8) 0 8, fitI v9 0 8, v10, v11, v12, v13, PUnit.unit, v15)) : Option ((List V) × ((List Int) × ((List V) × (Int × (Int × (Int × (Unit × Int)))))))).bind fun (v39, v40, v41, v42, v43, v44, v45, v46) =>
                      some (.inr ((v39, v40, v41, v42, v43, v44, v45, v46)))) ((all v8 ++ rep (Int.toNat (w64 (v13 - 8))) (V.int .u8 0), wu64 (v11 * 8), 56))
                else
                  none
              else
                none : Option ((List V) × ((List Int) × ((List V) × (Int × (Int × (Int × (Unit × Int)))))))).bind fun (v47, v48, v49, v50, v51, v52, v53, v54) =>
            some (.inr ((v47, v48, v49, v50, v51, v52, v53, v54)))) ((PUnit.unit, v1 ++ [V.int .u8 128], fitI v0 0 8, v1, v2, v3, v4, PUnit.unit, v6))
    else
      none
  else
    none
noncomputable def fn_hash_engine__8_uint64__sum : Fn := ⟨222, [.ndR 187 [.arr .u64 8, .o (.v (.lst false 1)), .o (.v (.int .u64)), .o (.v (.int .i64)), .o (.v (.int .i64)), .o (.v (.fn0 163)), .o (.v (.clo1 165 (.int .i64)))]], .io (.one (.t (.own 5))) [.ndR 187 [.arr .u64 8, .o (.v (.lst false 1)), .o (.v (.int .u64)), .o (.v (.int .i64)), .o (.v (.int .i64)), .o (.v (.fn0 163)), .o (.v (.clo1 165 (.int .i64)))]], F_hash_engine__8_uint64__sum⟩
theorem t_hash_engine__8_uint64__sum : GoodAt Try.prog HH HSP 10 fn_hash_engine__8_uint64__sum := goodAt_in (ho := HO) (n := 5) (d := 4) (inl := INL) (l := [fn_hash_wide_1, fn_hash_spell_uint64_]) rfl INL_told (hl1 (t_hash_wide_1.up (by decide)) (hl1 (t_hash_spell_uint64_.up (by decide)) hl0)) fun x => by kernel_rfl

noncomputable def F_hash_engine__8_uint32__sum : Ps [.ndR 178 [.arr .u32 8, .o (.v (.lst false 1)), .o (.v (.int .u64)), .o (.v (.int .i64)), .o (.v (.int .i64)), .o (.v (.fn0 159)), .o (.v (.clo1 161 (.int .i64)))]] → Option (Rc.I (.io (.one (.t (.own 5))) [.ndR 178 [.arr .u32 8, .o (.v (.lst false 1)), .o (.v (.int .u64)), .o (.v (.int .i64)), .o (.v (.int .i64)), .o (.v (.fn0 159)), .o (.v (.clo1 161 (.int .i64)))]])) := fun ((v0, v1, v2, v3, v4, v5, v6) : ((List Int) × ((List V) × (Int × (Int × (Int × (Unit × Int))))))) =>
  if 0 + List.length v1 ≤ 2147483648 then
    if List.length v1 + 1 ≤ 2147483648 then
      loopO (σ := (Unit × ((List V) × ((List Int) × ((List V) × (Int × (Int × (Int × (Unit × Int))))))))) (R := ((List V) × ((List Int) × ((List V) × (Int × (Int × (Int × (Unit × Int)))))))) (fun (v7, v8, v9, v10, v11, v12, v13, v14, v15) =>
        if v12 = 0 then
          none
        else
          if (Int.tmod (len v8) v12 != w64 (v12 - v13)) = true then
            if List.length (all v8) + 1 ≤ 2147483648 then
              some (.inl ((PUnit.unit, all v8 ++ [V.int .u8 0], fitI v9 0 8, v10, v11, v12, v13, PUnit.unit, v15)))
            else
              none
          else
            (if 0 ≤ w64 (v13 - 8) ∧ w64 (v13 - 8) ≤ 2147483648 then
                if List.length (all v8) + List.length (rep (Int.toNat (w64 (v13 - 8))) (V.int .u8 0)) ≤ 2147483648 then
                  loopO (σ := ((List V) × (Int × Int))) (R := ((List V) × ((List Int) × ((List V) × (Int × (Int × (Int × (Unit × Int)))))))) (fun (v16, v17, v18) =>
                    if decide (v18 ≥ 0) = true then
                      if v18 < 0 then
                        none
                      else
                        if List.length (all v16) + 1 ≤ 2147483648 then
                          some (.inl ((all v16 ++ [V.int .u8 (wu8 (wordShr .u64 v17 v18))], v17, w64 (v18 - 8))))
                        else
                          none
                    else
                      (loopO (σ := (Unit × ((List V) × ((List Int) × ((List Int) × ((List V) × (Int × (Int × (Int × (Unit × Int)))))))))) (R := ((List V) × ((List Int) × ((List V) × (Int × (Int × (Int × (Unit × Int)))))))) (fun (v19, v20, v21, v22, v23, v24, v25, v26, v27, v28) =>
                          if decide (len v20 > 0) = true then
                            if 0 ≤ v25 then
                              if 0 ≤ Int.toNat v25 ∧ Int.toNat v25 ≤ List.length v20 then
                                (F_hash_short_1 (fitI (fitI v21 0 8) 0 8, List.take (Int.toNat v25) (List.drop 0 v20)) : Option (List Int)).bind fun (v29 : (List Int)) =>
                                if 0 ≤ v25 then
                                    if Int.toNat v25 ≤ List.length v20 ∧ List.length v20 ≤ List.length v20 then
                                      some (.inl ((PUnit.unit, List.take (List.length v20 - Int.toNat v25) (List.drop (0 + Int.toNat v25) v20), fitI v29 0 8, fitI v22 0 8, v23, v24, v25, v26, PUnit.unit, v28)))
                                    else
                                      none
                                  else
                                    none
                              else
                                none
                            else
                              none
                          else
                            ((F_hash_spell_uint32_ (arrV .u32 (fitI v21 0 8) 0 8, 4, v28) : Option (List V)).bind fun (v30 : (List V)) =>
                              some ((v30, fitI v22 0 8, v23, v24, v25, v26, PUnit.unit, v28)) : Option ((List V) × ((List Int) × ((List V) × (Int × (Int × (Int × (Unit × Int)))))))).bind fun (v31, v32, v33, v34, v35, v36, v37, v38) =>
                            some (.inr ((v31, v32, v33, v34, v35, v36, v37, v38)))) ((PUnit.unit, v16, fitI (fitI v9 0 8) 0 8, fitI v9 0 8, v10, v11, v12, v13, PUnit.unit, v15)) : Option ((List V) × ((List Int) × ((List V) × (Int × (Int × (Int × (Unit × Int)))))))).bind fun (v39, v40, v41, v42, v43, v44, v45, v46) =>
                      some (.inr ((v39, v40, v41, v42, v43, v44, v45, v46)))) ((all v8 ++ rep (Int.toNat (w64 (v13 - 8))) (V.int .u8 0), wu64 (v11 * 8), 56))
                else
                  none
              else
                none : Option ((List V) × ((List Int) × ((List V) × (Int × (Int × (Int × (Unit × Int)))))))).bind fun (v47, v48, v49, v50, v51, v52, v53, v54) =>
            some (.inr ((v47, v48, v49, v50, v51, v52, v53, v54)))) ((PUnit.unit, v1 ++ [V.int .u8 128], fitI v0 0 8, v1, v2, v3, v4, PUnit.unit, v6))
    else
      none
  else
    none
noncomputable def fn_hash_engine__8_uint32__sum : Fn := ⟨218, [.ndR 178 [.arr .u32 8, .o (.v (.lst false 1)), .o (.v (.int .u64)), .o (.v (.int .i64)), .o (.v (.int .i64)), .o (.v (.fn0 159)), .o (.v (.clo1 161 (.int .i64)))]], .io (.one (.t (.own 5))) [.ndR 178 [.arr .u32 8, .o (.v (.lst false 1)), .o (.v (.int .u64)), .o (.v (.int .i64)), .o (.v (.int .i64)), .o (.v (.fn0 159)), .o (.v (.clo1 161 (.int .i64)))]], F_hash_engine__8_uint32__sum⟩
theorem t_hash_engine__8_uint32__sum : GoodAt Try.prog HH HSP 10 fn_hash_engine__8_uint32__sum := goodAt_in (ho := HO) (n := 5) (d := 4) (inl := INL) (l := [fn_hash_short_1, fn_hash_spell_uint32_]) rfl INL_told (hl1 (t_hash_short_1.up (by decide)) (hl1 (t_hash_spell_uint32_.up (by decide)) hl0)) fun x => by kernel_rfl

noncomputable def F_hash_engine__5_uint32__sum : Ps [.ndR 170 [.arr .u32 5, .o (.v (.lst false 1)), .o (.v (.int .u64)), .o (.v (.int .i64)), .o (.v (.int .i64)), .o (.v (.fn0 154)), .o (.v (.fn0 156))]] → Option (Rc.I (.io (.one (.t (.own 5))) [.ndR 170 [.arr .u32 5, .o (.v (.lst false 1)), .o (.v (.int .u64)), .o (.v (.int .i64)), .o (.v (.int .i64)), .o (.v (.fn0 154)), .o (.v (.fn0 156))]])) := fun ((v0, v1, v2, v3, v4, v5, v6) : ((List Int) × ((List V) × (Int × (Int × (Int × (Unit × Unit))))))) =>
  if 0 + List.length v1 ≤ 2147483648 then
    if List.length v1 + 1 ≤ 2147483648 then
      loopO (σ := (Unit × ((List V) × (Int × (Int × (Int × (Int × (Int × ((List V) × (Int × (Int × (Int × (Unit × Unit))))))))))))) (R := ((List V) × ((List Int) × ((List V) × (Int × (Int × (Int × (Unit × Unit)))))))) (fun (v7, v8, v9, v10, v11, v12, v13, v14, v15, v16, v17, v18, v19) =>
        if v16 = 0 then
          none
        else
          if (Int.tmod (len v8) v16 != w64 (v16 - v17)) = true then
            if List.length (all v8) + 1 ≤ 2147483648 then
              some (.inl ((PUnit.unit, all v8 ++ [V.int .u8 0], v9, v10, v11, v12, v13, v14, v15, v16, v17, PUnit.unit, PUnit.unit)))
            else
              none
          else
            (if 0 ≤ w64 (v17 - 8) ∧ w64 (v17 - 8) ≤ 2147483648 then
                if List.length (all v8) + List.length (rep (Int.toNat (w64 (v17 - 8))) (V.int .u8 0)) ≤ 2147483648 then
                  loopO (σ := ((List V) × (Int × Int))) (R := ((List V) × ((List Int) × ((List V) × (Int × (Int × (Int × (Unit × Unit)))))))) (fun (v20, v21, v22) =>
                    if decide (v22 ≥ 0) = true then
                      if v22 < 0 then
                        none
                      else
                        if List.length (all v20) + 1 ≤ 2147483648 then
                          some (.inl ((all v20 ++ [V.int .u8 (wu8 (wordShr .u64 v21 v22))], v21, w64 (v22 - 8))))
                        else
                          none
                    else
                      (loopO (σ := (Unit × ((List V) × ((List Int) × (Int × (Int × (Int × (Int × (Int × ((List V) × (Int × (Int × (Int × (Unit × Unit)))))))))))))) (R := ((List V) × ((List Int) × ((List V) × (Int × (Int × (Int × (Unit × Unit)))))))) (fun (v23, v24, v25, v26, v27, v28, v29, v30, v31, v32, v33, v34, v35, v36) =>
                          if decide (len v24 > 0) = true then
                            if 0 ≤ v33 then
                              if 0 ≤ Int.toNat v33 ∧ Int.toNat v33 ≤ List.length v24 then
                                (F_hash_old_1 ([List.getD [List.getD v25 0 0, List.getD v25 1 0, List.getD v25 2 0, List.getD v25 3 0, List.getD v25 4 0] 0 0, List.getD [List.getD v25 0 0, List.getD v25 1 0, List.getD v25 2 0, List.getD v25 3 0, List.getD v25 4 0] 1 0, List.getD [List.getD v25 0 0, List.getD v25 1 0, List.getD v25 2 0, List.getD v25 3 0, List.getD v25 4 0] 2 0, List.getD [List.getD v25 0 0, List.getD v25 1 0, List.getD v25 2 0, List.getD v25 3 0, List.getD v25 4 0] 3 0, List.getD [List.getD v25 0 0, List.getD v25 1 0, List.getD v25 2 0, List.getD v25 3 0, List.getD v25 4 0] 4 0], List.take (Int.toNat v33) (List.drop 0 v24)) : Option (List Int)).bind fun (v37 : (List Int)) =>
                                if 0 ≤ v33 then
                                    if Int.toNat v33 ≤ List.length v24 ∧ List.length v24 ≤ List.length v24 then
                                      some (.inl ((PUnit.unit, List.take (List.length v24 - Int.toNat v33) (List.drop (0 + Int.toNat v33) v24), [List.getD v37 0 0, List.getD v37 1 0, List.getD v37 2 0, List.getD v37 3 0, List.getD v37 4 0], v26, v27, v28, v29, v30, v31, v32, v33, v34, PUnit.unit, PUnit.unit)))
                                    else
                                      none
                                  else
                                    none
                              else
                                none
                            else
                              none
                          else
                            ((F_hash_old_2 [List.getD [List.getD v25 0 0, List.getD v25 1 0, List.getD v25 2 0, List.getD v25 3 0, List.getD v25 4 0] 0 0, List.getD [List.getD v25 0 0, List.getD v25 1 0, List.getD v25 2 0, List.getD v25 3 0, List.getD v25 4 0] 1 0, List.getD [List.getD v25 0 0, List.getD v25 1 0, List.getD v25 2 0, List.getD v25 3 0, List.getD v25 4 0] 2 0, List.getD [List.getD v25 0 0, List.getD v25 1 0, List.getD v25 2 0, List.getD v25 3 0, List.getD v25 4 0] 3 0, List.getD [List.getD v25 0 0, List.getD v25 1 0, List.getD v25 2 0, List.getD v25 3 0, List.getD v25 4 0] 4 0] : Option (List V)).bind fun (v38 : (List V)) =>
                              some ((v38, [v26, v27, v28, v29, v30], v31, v32, v33, v34, PUnit.unit, PUnit.unit)) : Option ((List V) × ((List Int) × ((List V) × (Int × (Int × (Int × (Unit × Unit)))))))).bind fun (v39, v40, v41, v42, v43, v44, v45, v46) =>
                            some (.inr ((v39, v40, v41, v42, v43, v44, v45, v46)))) ((PUnit.unit, v20, [List.getD [v9, v10, v11, v12, v13] 0 0, List.getD [v9, v10, v11, v12, v13] 1 0, List.getD [v9, v10, v11, v12, v13] 2 0, List.getD [v9, v10, v11, v12, v13] 3 0, List.getD [v9, v10, v11, v12, v13] 4 0], v9, v10, v11, v12, v13, v14, v15, v16, v17, PUnit.unit, PUnit.unit)) : Option ((List V) × ((List Int) × ((List V) × (Int × (Int × (Int × (Unit × Unit)))))))).bind fun (v47, v48, v49, v50, v51, v52, v53, v54) =>
                      some (.inr ((v47, v48, v49, v50, v51, v52, v53, v54)))) ((all v8 ++ rep (Int.toNat (w64 (v17 - 8))) (V.int .u8 0), wu64 (v15 * 8), 56))
                else
                  none
              else
                none : Option ((List V) × ((List Int) × ((List V) × (Int × (Int × (Int × (Unit × Unit)))))))).bind fun (v55, v56, v57, v58, v59, v60, v61, v62) =>
            some (.inr ((v55, v56, v57, v58, v59, v60, v61, v62)))) ((PUnit.unit, v1 ++ [V.int .u8 128], List.getD v0 0 0, List.getD v0 1 0, List.getD v0 2 0, List.getD v0 3 0, List.getD v0 4 0, v1, v2, v3, v4, PUnit.unit, PUnit.unit))
    else
      none
  else
    none
noncomputable def fn_hash_engine__5_uint32__sum : Fn := ⟨214, [.ndR 170 [.arr .u32 5, .o (.v (.lst false 1)), .o (.v (.int .u64)), .o (.v (.int .i64)), .o (.v (.int .i64)), .o (.v (.fn0 154)), .o (.v (.fn0 156))]], .io (.one (.t (.own 5))) [.ndR 170 [.arr .u32 5, .o (.v (.lst false 1)), .o (.v (.int .u64)), .o (.v (.int .i64)), .o (.v (.int .i64)), .o (.v (.fn0 154)), .o (.v (.fn0 156))]], F_hash_engine__5_uint32__sum⟩
theorem t_hash_engine__5_uint32__sum : GoodAt Try.prog HH HSP 5 fn_hash_engine__5_uint32__sum := goodAt_of (ho := HO) (l := [fn_hash_old_1, fn_hash_old_2]) rfl (hl1 (t_hash_old_1.up (by decide)) (hl1 (t_hash_old_2.up (by decide)) hl0)) fun x => by kernel_rfl

noncomputable def F_hash_engine__8_uint64__write : Ps [.ndR 187 [.arr .u64 8, .o (.v (.lst false 1)), .o (.v (.int .u64)), .o (.v (.int .i64)), .o (.v (.int .i64)), .o (.v (.fn0 163)), .o (.v (.clo1 165 (.int .i64)))], .v (.lst true 1)] → Option (Rc.I (.io (.tup []) [.ndR 187 [.arr .u64 8, .o (.v (.lst false 1)), .o (.v (.int .u64)), .o (.v (.int .i64)), .o (.v (.int .i64)), .o (.v (.fn0 163)), .o (.v (.clo1 165 (.int .i64)))], .t .dead])) := fun (((v0, v1, v2, v3, v4, v5, v6), v7) : (((List Int) × ((List V) × (Int × (Int × (Int × (Unit × Int)))))) × (List V))) =>
  if 0 ≤ List.length v1 ∧ List.length v1 = List.length v1 ∧ List.length v1 ≤ List.length v1 then
    if List.length (all v1) + List.length v7 ≤ 2147483648 then
      loopO (σ := (Unit × ((List Int) × ((List V) × (Int × (Int × (Int × (Unit × Int)))))))) (R := (Unit × (((List Int) × ((List V) × (Int × (Int × (Int × (Unit × Int)))))) × Unit))) (fun (v8, v9, v10, v11, v12, v13, v14, v15) =>
        if decide (len v10 ≥ v12) = true then
          if 0 ≤ v12 then
            if 0 ≤ Int.toNat v12 ∧ Int.toNat v12 ≤ List.length v10 then
              (F_hash_wide_1 (fitI (fitI v9 0 8) 0 8, List.take (Int.toNat v12) (List.drop 0 v10)) : Option (List Int)).bind fun (v16 : (List Int)) =>
              if 0 ≤ v12 then
                  if Int.toNat v12 ≤ List.length v10 ∧ List.length v10 ≤ List.length v10 then
                    some (.inl ((PUnit.unit, fitI v16 0 8, List.take (List.length v10 - Int.toNat v12) (List.drop (Int.toNat v12) v10), v11, v12, v13, PUnit.unit, v15)))
                  else
                    none
                else
                  none
            else
              none
          else
            none
        else
          some (.inr ((PUnit.unit, (fitI v9 0 8, v10, v11, v12, v13, PUnit.unit, v15), PUnit.unit)))) ((PUnit.unit, fitI v0 0 8, all v1 ++ v7, wu64 (v2 + wu64 (len v7)), v3, v4, PUnit.unit, v6))
    else
      none
  else
    none
noncomputable def fn_hash_engine__8_uint64__write : Fn := ⟨223, [.ndR 187 [.arr .u64 8, .o (.v (.lst false 1)), .o (.v (.int .u64)), .o (.v (.int .i64)), .o (.v (.int .i64)), .o (.v (.fn0 163)), .o (.v (.clo1 165 (.int .i64)))], .v (.lst true 1)], .io (.tup []) [.ndR 187 [.arr .u64 8, .o (.v (.lst false 1)), .o (.v (.int .u64)), .o (.v (.int .i64)), .o (.v (.int .i64)), .o (.v (.fn0 163)), .o (.v (.clo1 165 (.int .i64)))], .t .dead], F_hash_engine__8_uint64__write⟩
theorem t_hash_engine__8_uint64__write : GoodAt Try.prog HH HSP 5 fn_hash_engine__8_uint64__write := goodAt_of (ho := HO) (l := [fn_hash_wide_1]) rfl (hl1 (t_hash_wide_1.up (by decide)) hl0) fun x => by kernel_rfl

noncomputable def F_hash_engine__8_uint32__write : Ps [.ndR 178 [.arr .u32 8, .o (.v (.lst false 1)), .o (.v (.int .u64)), .o (.v (.int .i64)), .o (.v (.int .i64)), .o (.v (.fn0 159)), .o (.v (.clo1 161 (.int .i64)))], .v (.lst true 1)] → Option (Rc.I (.io (.tup []) [.ndR 178 [.arr .u32 8, .o (.v (.lst false 1)), .o (.v (.int .u64)), .o (.v (.int .i64)), .o (.v (.int .i64)), .o (.v (.fn0 159)), .o (.v (.clo1 161 (.int .i64)))], .t .dead])) := fun (((v0, v1, v2, v3, v4, v5, v6), v7) : (((List Int) × ((List V) × (Int × (Int × (Int × (Unit × Int)))))) × (List V))) =>
  if 0 ≤ List.length v1 ∧ List.length v1 = List.length v1 ∧ List.length v1 ≤ List.length v1 then
    if List.length (all v1) + List.length v7 ≤ 2147483648 then
      loopO (σ := (Unit × ((List Int) × ((List V) × (Int × (Int × (Int × (Unit × Int)))))))) (R := (Unit × (((List Int) × ((List V) × (Int × (Int × (Int × (Unit × Int)))))) × Unit))) (fun (v8, v9, v10, v11, v12, v13, v14, v15) =>
        if decide (len v10 ≥ v12) = true then
          if 0 ≤ v12 then
            if 0 ≤ Int.toNat v12 ∧ Int.toNat v12 ≤ List.length v10 then
              (F_hash_short_1 (fitI (fitI v9 0 8) 0 8, List.take (Int.toNat v12) (List.drop 0 v10)) : Option (List Int)).bind fun (v16 : (List Int)) =>
              if 0 ≤ v12 then
                  if Int.toNat v12 ≤ List.length v10 ∧ List.length v10 ≤ List.length v10 then
                    some (.inl ((PUnit.unit, fitI v16 0 8, List.take (List.length v10 - Int.toNat v12) (List.drop (Int.toNat v12) v10), v11, v12, v13, PUnit.unit, v15)))
                  else
                    none
                else
                  none
            else
              none
          else
            none
        else
          some (.inr ((PUnit.unit, (fitI v9 0 8, v10, v11, v12, v13, PUnit.unit, v15), PUnit.unit)))) ((PUnit.unit, fitI v0 0 8, all v1 ++ v7, wu64 (v2 + wu64 (len v7)), v3, v4, PUnit.unit, v6))
    else
      none
  else
    none
noncomputable def fn_hash_engine__8_uint32__write : Fn := ⟨219, [.ndR 178 [.arr .u32 8, .o (.v (.lst false 1)), .o (.v (.int .u64)), .o (.v (.int .i64)), .o (.v (.int .i64)), .o (.v (.fn0 159)), .o (.v (.clo1 161 (.int .i64)))], .v (.lst true 1)], .io (.tup []) [.ndR 178 [.arr .u32 8, .o (.v (.lst false 1)), .o (.v (.int .u64)), .o (.v (.int .i64)), .o (.v (.int .i64)), .o (.v (.fn0 159)), .o (.v (.clo1 161 (.int .i64)))], .t .dead], F_hash_engine__8_uint32__write⟩
theorem t_hash_engine__8_uint32__write : GoodAt Try.prog HH HSP 5 fn_hash_engine__8_uint32__write := goodAt_of (ho := HO) (l := [fn_hash_short_1]) rfl (hl1 (t_hash_short_1.up (by decide)) hl0) fun x => by kernel_rfl

noncomputable def F_hash_engine__5_uint32__write : Ps [.ndR 170 [.arr .u32 5, .o (.v (.lst false 1)), .o (.v (.int .u64)), .o (.v (.int .i64)), .o (.v (.int .i64)), .o (.v (.fn0 154)), .o (.v (.fn0 156))], .v (.lst true 1)] → Option (Rc.I (.io (.tup []) [.ndR 170 [.arr .u32 5, .o (.v (.lst false 1)), .o (.v (.int .u64)), .o (.v (.int .i64)), .o (.v (.int .i64)), .o (.v (.fn0 154)), .o (.v (.fn0 156))], .t .dead])) := fun (((v0, v1, v2, v3, v4, v5, v6), v7) : (((List Int) × ((List V) × (Int × (Int × (Int × (Unit × Unit)))))) × (List V))) =>
  if 0 ≤ List.length v1 ∧ List.length v1 = List.length v1 ∧ List.length v1 ≤ List.length v1 then
    if List.length (all v1) + List.length v7 ≤ 2147483648 then
      loopO (σ := (Unit × (Int × (Int × (Int × (Int × (Int × ((List V) × (Int × (Int × (Int × (Unit × Unit)))))))))))) (R := (Unit × (((List Int) × ((List V) × (Int × (Int × (Int × (Unit × Unit)))))) × Unit))) (fun (v8, v9, v10, v11, v12, v13, v14, v15, v16, v17, v18, v19) =>
        if decide (len v14 ≥ v16) = true then
          if 0 ≤ v16 then
            if 0 ≤ Int.toNat v16 ∧ Int.toNat v16 ≤ List.length v14 then
              (F_hash_old_1 ([List.getD [v9, v10, v11, v12, v13] 0 0, List.getD [v9, v10, v11, v12, v13] 1 0, List.getD [v9, v10, v11, v12, v13] 2 0, List.getD [v9, v10, v11, v12, v13] 3 0, List.getD [v9, v10, v11, v12, v13] 4 0], List.take (Int.toNat v16) (List.drop 0 v14)) : Option (List Int)).bind fun (v20 : (List Int)) =>
              if 0 ≤ v16 then
                  if Int.toNat v16 ≤ List.length v14 ∧ List.length v14 ≤ List.length v14 then
                    some (.inl ((PUnit.unit, List.getD v20 0 0, List.getD v20 1 0, List.getD v20 2 0, List.getD v20 3 0, List.getD v20 4 0, List.take (List.length v14 - Int.toNat v16) (List.drop (Int.toNat v16) v14), v15, v16, v17, PUnit.unit, PUnit.unit)))
                  else
                    none
                else
                  none
            else
              none
          else
            none
        else
          some (.inr ((PUnit.unit, ([v9, v10, v11, v12, v13], v14, v15, v16, v17, PUnit.unit, PUnit.unit), PUnit.unit)))) ((PUnit.unit, List.getD v0 0 0, List.getD v0 1 0, List.getD v0 2 0, List.getD v0 3 0, List.getD v0 4 0, all v1 ++ v7, wu64 (v2 + wu64 (len v7)), v3, v4, PUnit.unit, PUnit.unit))
    else
      none
  else
    none
noncomputable def fn_hash_engine__5_uint32__write : Fn := ⟨215, [.ndR 170 [.arr .u32 5, .o (.v (.lst false 1)), .o (.v (.int .u64)), .o (.v (.int .i64)), .o (.v (.int .i64)), .o (.v (.fn0 154)), .o (.v (.fn0 156))], .v (.lst true 1)], .io (.tup []) [.ndR 170 [.arr .u32 5, .o (.v (.lst false 1)), .o (.v (.int .u64)), .o (.v (.int .i64)), .o (.v (.int .i64)), .o (.v (.fn0 154)), .o (.v (.fn0 156))], .t .dead], F_hash_engine__5_uint32__write⟩
theorem t_hash_engine__5_uint32__write : GoodAt Try.prog HH HSP 5 fn_hash_engine__5_uint32__write := goodAt_of (ho := HO) (l := [fn_hash_old_1]) rfl (hl1 (t_hash_old_1.up (by decide)) hl0) fun x => by kernel_rfl

noncomputable def B_hash_Sum : Ps [.v (.int .i64), .v (.lst true 1)] → Option (Rc.I (.pure (.tup [.t (.own 5), .t (.v (.int .i64))]) 2)) := fun ((v0, v1) : (Int × (List V))) =>
  if (v0 == 2) = true then
    (F_sha1_Start PUnit.unit : Option (List Int)).bind fun (v2 : (List Int)) =>
    ((F_hash_engine__5_uint32__write (([List.getD v2 0 0, List.getD v2 1 0, List.getD v2 2 0, List.getD v2 3 0, List.getD v2 4 0], nilV, 0, 64, 8, PUnit.unit, PUnit.unit), v1) : Option (Unit × (((List Int) × ((List V) × (Int × (Int × (Int × (Unit × Unit)))))) × Unit))).bind fun ((v3, (v4, v5, v6, v7, v8, v9, v10), v11) : (Unit × (((List Int) × ((List V) × (Int × (Int × (Int × (Unit × Unit)))))) × Unit))) =>
        some (.inl ((PUnit.unit, v1, List.getD v4 0 0, List.getD v4 1 0, List.getD v4 2 0, List.getD v4 3 0, List.getD v4 4 0, v5, v6, v7, v8, PUnit.unit, PUnit.unit))) : Option ((Unit × ((List V) × (Int × (Int × (Int × (Int × (Int × ((List V) × (Int × (Int × (Int × (Unit × Unit)))))))))))) ⊕ ((List V) × Int))).bind fun v12 =>
      match v12 with
        | .inl (v13, v14, v15, v16, v17, v18, v19, v20, v21, v22, v23, v24, v25) =>
          (F_hash_engine__5_uint32__sum ([v15, v16, v17, v18, v19], v20, v21, v22, v23, PUnit.unit, PUnit.unit) : Option ((List V) × ((List Int) × ((List V) × (Int × (Int × (Int × (Unit × Unit)))))))).bind fun ((v26, v27, v28, v29, v30, v31, v32, v33) : ((List V) × ((List Int) × ((List V) × (Int × (Int × (Int × (Unit × Unit)))))))) =>
          some ((v26, 0))
        | .inr (v34, v35) =>
          some ((v34, v35))
  else
    (if (v0 == 11) = true then
        some (.inl ((v0, v0 == 11)))
      else
        some (.inl ((v0, v0 == 8))) : Option ((Int × Bool) ⊕ ((List V) × Int))).bind fun v36 =>
    match v36 with
      | .inl (v37, v38) =>
        if v38 = true then
          (F_hash_Size v0 : Option Int).bind fun (v39 : Int) =>
          (F_sha256_Start (v0 == 8) : Option (List Int)).bind fun (v40 : (List Int)) =>
            ((F_hash_engine__8_uint32__write ((fitI v40 0 8, nilV, 0, 64, 8, PUnit.unit, v39), v1) : Option (Unit × (((List Int) × ((List V) × (Int × (Int × (Int × (Unit × Int)))))) × Unit))).bind fun ((v41, (v42, v43, v44, v45, v46, v47, v48), v49) : (Unit × (((List Int) × ((List V) × (Int × (Int × (Int × (Unit × Int)))))) × Unit))) =>
                some (.inl ((PUnit.unit, v1, fitI v42 0 8, v43, v44, v45, v46, PUnit.unit, v48))) : Option ((Unit × ((List V) × ((List Int) × ((List V) × (Int × (Int × (Int × (Unit × Int)))))))) ⊕ ((List V) × Int))).bind fun v50 =>
              match v50 with
                | .inl (v51, v52, v53, v54, v55, v56, v57, v58, v59) =>
                  (F_hash_engine__8_uint32__sum (fitI v53 0 8, v54, v55, v56, v57, PUnit.unit, v59) : Option ((List V) × ((List Int) × ((List V) × (Int × (Int × (Int × (Unit × Int)))))))).bind fun ((v60, v61, v62, v63, v64, v65, v66, v67) : ((List V) × ((List Int) × ((List V) × (Int × (Int × (Int × (Unit × Int)))))))) =>
                  some ((v60, 0))
                | .inr (v68, v69) =>
                  some ((v68, v69))
        else
          (if (v37 == 9) = true then
              some (.inl ((v37, v37 == 9)))
            else
              some (.inl ((v37, v37 == 10))) : Option ((Int × Bool) ⊕ ((List V) × Int))).bind fun v70 =>
          match v70 with
            | .inl (v71, v72) =>
              if v72 = true then
                (F_hash_Size v0 : Option Int).bind fun (v73 : Int) =>
                (F_sha512_Start (v0 == 10) : Option (List Int)).bind fun (v74 : (List Int)) =>
                  ((F_hash_engine__8_uint64__write ((fitI v74 0 8, nilV, 0, 128, 16, PUnit.unit, v73), v1) : Option (Unit × (((List Int) × ((List V) × (Int × (Int × (Int × (Unit × Int)))))) × Unit))).bind fun ((v75, (v76, v77, v78, v79, v80, v81, v82), v83) : (Unit × (((List Int) × ((List V) × (Int × (Int × (Int × (Unit × Int)))))) × Unit))) =>
                      some (.inl ((PUnit.unit, v1, fitI v76 0 8, v77, v78, v79, v80, PUnit.unit, v82))) : Option ((Unit × ((List V) × ((List Int) × ((List V) × (Int × (Int × (Int × (Unit × Int)))))))) ⊕ ((List V) × Int))).bind fun v84 =>
                    match v84 with
                      | .inl (v85, v86, v87, v88, v89, v90, v91, v92, v93) =>
                        (F_hash_engine__8_uint64__sum (fitI v87 0 8, v88, v89, v90, v91, PUnit.unit, v93) : Option ((List V) × ((List Int) × ((List V) × (Int × (Int × (Int × (Unit × Int)))))))).bind fun ((v94, v95, v96, v97, v98, v99, v100, v101) : ((List V) × ((List Int) × ((List V) × (Int × (Int × (Int × (Unit × Int)))))))) =>
                        some ((v94, 0))
                      | .inr (v102, v103) =>
                        some ((v102, v103))
              else
                some ((nilV, 9))
            | .inr (v104, v105) =>
              some ((v104, v105))
      | .inr (v106, v107) =>
        some ((v106, v107))
theorem E_hash_Sum : ∃ F, F = B_hash_Sum := ⟨_, rfl⟩
noncomputable def F_hash_Sum : Ps [.v (.int .i64), .v (.lst true 1)] → Option (Rc.I (.pure (.tup [.t (.own 5), .t (.v (.int .i64))]) 2)) := Classical.choose E_hash_Sum
theorem F_hash_Sum_eq : F_hash_Sum = B_hash_Sum := Classical.choose_spec E_hash_Sum
noncomputable def fn_hash_Sum : Fn := ⟨59, [.v (.int .i64), .v (.lst true 1)], .pure (.tup [.t (.own 5), .t (.v (.int .i64))]) 2, F_hash_Sum⟩
theorem t_hash_Sum : GoodAt Try.prog HH HSP 16 fn_hash_Sum := goodAt_in (ho := HO) (n := 5) (d := 10) (inl := INL) (l := [fn_hash_Size, fn_hash_engine__5_uint32__write, fn_hash_engine__8_uint32__write, fn_hash_engine__8_uint64__write, fn_hash_engine__5_uint32__sum, fn_hash_engine__8_uint32__sum, fn_hash_engine__8_uint64__sum, fn_sha1_Start, fn_sha256_Start, fn_sha512_Start, fn_hash_spell_uint32_, fn_hash_spell_uint64_, fn_hash_old_1, fn_hash_old_2, fn_hash_short_1, fn_hash_wide_1]) rfl INL_told (hl1 (t_hash_Size.up (by decide)) (hl1 (t_hash_engine__5_uint32__write.up (by decide)) (hl1 (t_hash_engine__8_uint32__write.up (by decide)) (hl1 (t_hash_engine__8_uint64__write.up (by decide)) (hl1 (t_hash_engine__5_uint32__sum.up (by decide)) (hl1 (t_hash_engine__8_uint32__sum.up (by decide)) (hl1 (t_hash_engine__8_uint64__sum.up (by decide)) (hl1 (t_sha1_Start.up (by decide)) (hl1 (t_sha256_Start.up (by decide)) (hl1 (t_sha512_Start.up (by decide)) (hl1 (t_hash_spell_uint32_.up (by decide)) (hl1 (t_hash_spell_uint64_.up (by decide)) (hl1 (t_hash_old_1.up (by decide)) (hl1 (t_hash_old_2.up (by decide)) (hl1 (t_hash_short_1.up (by decide)) (hl1 (t_hash_wide_1.up (by decide)) hl0)))))))))))))))) fun x => by rw [show fn_hash_Sum.F = B_hash_Sum from F_hash_Sum_eq]; kernel_rfl

noncomputable def F_key_Print : Ps [.v (.st rapi_Key)] → Option (Rc.I (.pure (.tup [.t (.own 5), .t (.v (.int .i64))]) 1)) := fun ((v0, v1, v2, v3, v4, v5) : (Int × (Int × (Int × ((List V) × ((List V) × (List Int))))))) =>
  (F_key_Image (v0, v1, v2, v3, v4, fitI v5 0 32) : Option ((List V) × Int)).bind fun ((v6, v7) : ((List V) × Int)) =>
  if (v7 != 0) = true then
      some ((nilV, v7))
    else
      if (v0 == 6) = true then
        (F_hash_Sum (8, all v6) : Option ((List V) × Int)).bind fun ((v8, v9) : ((List V) × Int)) =>
        some ((v8, v9))
      else
        (F_hash_Sum (2, all v6) : Option ((List V) × Int)).bind fun ((v10, v11) : ((List V) × Int)) =>
        some ((v10, v11))
noncomputable def fn_key_Print : Fn := ⟨30, [.v (.st rapi_Key)], .pure (.tup [.t (.own 5), .t (.v (.int .i64))]) 1, F_key_Print⟩
theorem t_key_Print : GoodAt Try.prog HH HSP 17 fn_key_Print := goodAt_of (ho := HO) (l := [fn_key_Image, fn_hash_Sum]) rfl (hl1 (t_key_Image.up (by decide)) (hl1 (t_hash_Sum.up (by decide)) hl0)) fun x => by kernel_rfl

noncomputable def F_key_ID : Ps [.v (.st rapi_Key)] → Option (Rc.I (.pure (.tup [.t (.v (.st [.arr .u8 8])), .t (.v (.int .i64))]) 1)) := fun ((v0, v1, v2, v3, v4, v5) : (Int × (Int × (Int × ((List V) × ((List V) × (List Int))))))) =>
  (F_key_Print (v0, v1, v2, v3, v4, fitI v5 0 32) : Option ((List V) × Int)).bind fun ((v6, v7) : ((List V) × Int)) =>
  if (v7 != 0) = true then
      some ((rep 8 0, v7))
    else
      (if (v0 == 4) = true then
          if 0 ≤ w64 (len v6 - 8) then
            if Int.toNat (w64 (len v6 - 8)) ≤ List.length v6 ∧ List.length v6 ≤ List.length v6 then
              some (.inl (List.take (List.length v6 - Int.toNat (w64 (len v6 - 8))) (List.drop (Int.toNat (w64 (len v6 - 8))) v6)))
            else
              none
          else
            none
        else
          some (.inl (v6)) : Option ((List V) ⊕ ((List Int) × Int))).bind fun v8 =>
      match v8 with
        | .inl v9 =>
          if idN 0 ≤ 8 ∧ 8 ≤ List.length v9 then
            if 8 ≤ List.length (List.take 8 (List.drop 0 v9)) then
              (intsOf .u8 8 (List.take 8 (List.drop 0 v9))).bind fun v10 =>
              some ((fitI (fitI v10 0 8) 0 8, 0))
            else
              none
          else
            none
        | .inr (v11, v12) =>
          some ((v11, v12))
noncomputable def fn_key_ID : Fn := ⟨31, [.v (.st rapi_Key)], .pure (.tup [.t (.v (.st [.arr .u8 8])), .t (.v (.int .i64))]) 1, F_key_ID⟩
theorem t_key_ID : GoodAt Try.prog HH HSP 18 fn_key_ID := goodAt_of (ho := HO) (l := [fn_key_Print]) rfl (hl1 (t_key_Print.up (by decide)) hl0) fun x => by kernel_rfl

noncomputable def F_affiantref04_digit : Ps [.v (.lst true 1), .v (.int .i64)] → Option (Rc.I (.pure (.one (.t (.v (.int .u64)))) 2)) := fun ((v0, v1) : ((List V) × Int)) =>
  if decide (v1 < len v0) = true then
    if 0 ≤ v1 then
      (v0[Int.toNat v1]?).bind fun v2 =>
      (V.int? .u64 v2).bind fun v3 =>
        some (v3)
    else
      none
  else
    some (0)
noncomputable def fn_affiantref04_digit : Fn := ⟨102, [.v (.lst true 1), .v (.int .i64)], .pure (.one (.t (.v (.int .u64)))) 2, F_affiantref04_digit⟩
theorem t_affiantref04_digit : GoodAt Try.prog HH HSP 1 fn_affiantref04_digit := goodAt_of (ho := HO) (l := []) rfl hl0 fun x => by kernel_rfl

noncomputable def F_affiantref04_compare : Ps [.v (.lst true 1), .v (.lst true 1)] → Option (Rc.I (.pure (.one (.t (.v (.int .i64)))) 2)) := fun ((v0, v1) : ((List V) × (List V))) =>
  loopO (σ := ((List V) × ((List V) × (Int × Int)))) (R := Int) (fun (v2, v3, v4, v5) =>
    if decide (v5 ≥ 0) = true then
      (F_affiantref04_digit (v2, v5) : Option Int).bind fun (v6 : Int) =>
      (F_affiantref04_digit (v3, v5) : Option Int).bind fun (v7 : Int) =>
        if decide (v6 < v7) = true then
            some (.inr (-1))
          else
            (F_affiantref04_digit (v2, v5) : Option Int).bind fun (v8 : Int) =>
            (F_affiantref04_digit (v3, v5) : Option Int).bind fun (v9 : Int) =>
              if decide (v8 > v9) = true then
                  some (.inr (1))
                else
                  some (.inl ((v2, v3, v4, w64 (v5 - 1))))
    else
      some (.inr (0))) ((v0, v1, 0, w64 (List.foldl (fun a b => if b > a then b else a) (len v0) [len v1] - 1)))
noncomputable def fn_affiantref04_compare : Fn := ⟨66, [.v (.lst true 1), .v (.lst true 1)], .pure (.one (.t (.v (.int .i64)))) 2, F_affiantref04_compare⟩
theorem t_affiantref04_compare : GoodAt Try.prog HH HSP 2 fn_affiantref04_compare := goodAt_of (ho := HO) (l := [fn_affiantref04_digit]) rfl (hl1 (t_affiantref04_digit.up (by decide)) hl0) fun x => by kernel_rfl

noncomputable def F_affiantref04_trim : Ps [.v (.lst false 1)] → Option (Rc.I (.pure (.one (.t (.v (.lst false 1)))) 1)) := fun (v0 : (List V)) =>
  loopO (σ := ((List V) × Int)) (R := (List V)) (fun (v1, v2) =>
    (if decide (v2 > 0) = true then
        if 0 ≤ w64 (v2 - 1) then
          (v1[Int.toNat (w64 (v2 - 1))]?).bind fun v3 =>
          (V.int? .u64 v3).bind fun v4 =>
            some (v4 == 0)
        else
          none
      else
        some (false) : Option Bool).bind fun v5 =>
    if v5 = true then
        some (.inl ((v1, w64 (v2 - 1))))
      else
        (if 0 ≤ v2 then
            if 0 ≤ Int.toNat v2 ∧ Int.toNat v2 ≤ List.length v1 then
              some (List.take (Int.toNat v2) (List.drop 0 v1))
            else
              none
          else
            none : Option (List V)).bind fun v6 =>
        some (.inr (v6))) ((v0, len v0))
noncomputable def fn_affiantref04_trim : Fn := ⟨103, [.v (.lst false 1)], .pure (.one (.t (.v (.lst false 1)))) 1, F_affiantref04_trim⟩
theorem t_affiantref04_trim : GoodAt Try.prog HH HSP 1 fn_affiantref04_trim := goodAt_of (ho := HO) (l := []) rfl hl0 fun x => by kernel_rfl

noncomputable def F_affiantref04_Digits : Ps [.v (.lst true 1)] → Option (Rc.I (.pure (.one (.t (.v (.lst false 1)))) 1)) := fun (v0 : (List V)) =>
  loopO (σ := ((List V) × ((List V) × Int))) (R := (List V)) (fun (v1, v2, v3) =>
    if decide (v3 < len v1) = true then
      if 0 ≤ v3 then
        (v1[Int.toNat v3]?).bind fun v4 =>
        (V.int? .u32 v4).bind fun v5 =>
          if 0 ≤ v3 then
              (v1[Int.toNat v3]?).bind fun v6 =>
              (V.int? .u32 v6).bind fun v7 =>
                if List.length (all v2) + 2 ≤ 2147483648 then
                    some (.inl ((v1, all v2 ++ [V.int .u64 (wu64 (Int.tmod v5 65536)), V.int .u64 (wu64 (wu32 (Int.tdiv v7 65536)))], w64 (v3 + 1))))
                  else
                    none
            else
              none
      else
        none
    else
      ((F_affiantref04_trim (all v2) : Option (List V)).bind fun (v8 : (List V)) =>
        some (v8) : Option (List V)).bind fun v9 =>
      some (.inr (v9))) ((v0, nilV, 0))
noncomputable def fn_affiantref04_Digits : Fn := ⟨67, [.v (.lst true 1)], .pure (.one (.t (.v (.lst false 1)))) 1, F_affiantref04_Digits⟩
theorem t_affiantref04_Digits : GoodAt Try.prog HH HSP 2 fn_affiantref04_Digits := goodAt_of (ho := HO) (l := [fn_affiantref04_trim]) rfl (hl1 (t_affiantref04_trim.up (by decide)) hl0) fun x => by kernel_rfl

noncomputable def F_affiantref04_Cmp : Ps [.v (.lst true 1), .v (.lst true 1)] → Option (Rc.I (.pure (.one (.t (.v (.int .i64)))) 2)) := fun ((v0, v1) : ((List V) × (List V))) =>
  (F_affiantref04_Digits v0 : Option (List V)).bind fun (v2 : (List V)) =>
  (F_affiantref04_Digits v1 : Option (List V)).bind fun (v3 : (List V)) =>
    (F_affiantref04_compare (v2, v3) : Option Int).bind fun (v4 : Int) =>
      some (v4)
noncomputable def fn_affiantref04_Cmp : Fn := ⟨41, [.v (.lst true 1), .v (.lst true 1)], .pure (.one (.t (.v (.int .i64)))) 2, F_affiantref04_Cmp⟩
theorem t_affiantref04_Cmp : GoodAt Try.prog HH HSP 3 fn_affiantref04_Cmp := goodAt_of (ho := HO) (l := [fn_affiantref04_Digits, fn_affiantref04_compare]) rfl (hl1 (t_affiantref04_Digits.up (by decide)) (hl1 (t_affiantref04_compare.up (by decide)) hl0)) fun x => by kernel_rfl

noncomputable def F_affiantref23_Equal : Ps [.v (.st rapi_Key), .v (.st rapi_Key)] → Option (Rc.I (.pure (.one (.t (.v .bool))) 2)) := fun (((v0, v1, v2, v3, v4, v5), v6, v7, v8, v9, v10, v11) : ((Int × (Int × (Int × ((List V) × ((List V) × (List Int)))))) × (Int × (Int × (Int × ((List V) × ((List V) × (List Int)))))))) =>
  (if (v0 == v6) = true then
      if (v1 == v7) = true then
        if (v2 == v8) = true then
          if (fitI v5 0 32 == fitI v11 0 32) = true then
            (F_affiantref04_Cmp (v3, v9) : Option Int).bind fun (v12 : Int) =>
            if (v12 == 0) = true then
                (F_affiantref04_Cmp (v4, v10) : Option Int).bind fun (v13 : Int) =>
                some (v13 == 0)
              else
                some (false)
          else
            some (false)
        else
          some (false)
      else
        some (false)
    else
      some (false) : Option Bool).bind fun v14 =>
  some (v14)
noncomputable def fn_affiantref23_Equal : Fn := ⟨13, [.v (.st rapi_Key), .v (.st rapi_Key)], .pure (.one (.t (.v .bool))) 2, F_affiantref23_Equal⟩
theorem t_affiantref23_Equal : GoodAt Try.prog HH HSP 4 fn_affiantref23_Equal := goodAt_of (ho := HO) (l := [fn_affiantref04_Cmp]) rfl (hl1 (t_affiantref04_Cmp.up (by decide)) hl0) fun x => by kernel_rfl

noncomputable def F_affiantlaw23_KeyOnly : Ps [.v (.lst true 1)] → Option (Rc.I (.pure (.one (.t (.v .bool))) 1)) := fun (v0 : (List V)) =>
  if decide (len v0 > 600) = true then
    (F_affiantlaw23_alive PUnit.unit : Option Bool).bind fun (v1 : Bool) =>
    some (v1)
  else
    (F_key_Parse v0 : Option ((Int × (Int × (Int × ((List V) × ((List V) × (List Int)))))) × Int)).bind fun (((v2, v3, v4, v5, v6, v7), v8) : ((Int × (Int × (Int × ((List V) × ((List V) × (List Int)))))) × Int)) =>
    if (v8 != 0) = true then
        ((F_affiantlaw23_alive PUnit.unit : Option Bool).bind fun (v9 : Bool) =>
          if v9 = true then
              (F_affiantref23_Equal ((v2, v3, v4, v5, v6, fitI v7 0 32), 0, 0, 0, nilV, nilV, rep 32 0) : Option Bool).bind fun (v10 : Bool) =>
              some (v10)
            else
              some (false) : Option Bool).bind fun v11 =>
        some (v11)
      else
        (F_key_Emit (v2, v3, v4, v5, v6, fitI v7 0 32) : Option ((List V) × Int)).bind fun ((v12, v13) : ((List V) × Int)) =>
        (F_key_Print (v2, v3, v4, v5, v6, fitI v7 0 32) : Option ((List V) × Int)).bind fun ((v14, v15) : ((List V) × Int)) =>
          (F_key_ID (v2, v3, v4, v5, v6, fitI v7 0 32) : Option ((List Int) × Int)).bind fun ((v16, v17) : ((List Int) × Int)) =>
            (if (v2 == 4) = true then
                  if (len v14 == 20) = true then
                    if 12 ≤ List.length v14 ∧ List.length v14 ≤ List.length v14 then
                      (unbytes (List.take (List.length v14 - 12) (List.drop 12 v14))).bind fun v18 =>
                      if (v18 == [UInt8.ofNat (Int.toNat (List.getD v16 0 0)), UInt8.ofNat (Int.toNat (List.getD v16 1 0)), UInt8.ofNat (Int.toNat (List.getD v16 2 0)), UInt8.ofNat (Int.toNat (List.getD v16 3 0)), UInt8.ofNat (Int.toNat (List.getD v16 4 0)), UInt8.ofNat (Int.toNat (List.getD v16 5 0)), UInt8.ofNat (Int.toNat (List.getD v16 6 0)), UInt8.ofNat (Int.toNat (List.getD v16 7 0))]) = false then
                          if (v2 == 6) = true then
                            if (len v14 == 32) = true then
                              if idN 0 ≤ 8 ∧ 8 ≤ List.length v14 then
                                (unbytes (List.take 8 (List.drop 0 v14))).bind fun v19 =>
                                some (v19 == [UInt8.ofNat (Int.toNat (List.getD v16 0 0)), UInt8.ofNat (Int.toNat (List.getD v16 1 0)), UInt8.ofNat (Int.toNat (List.getD v16 2 0)), UInt8.ofNat (Int.toNat (List.getD v16 3 0)), UInt8.ofNat (Int.toNat (List.getD v16 4 0)), UInt8.ofNat (Int.toNat (List.getD v16 5 0)), UInt8.ofNat (Int.toNat (List.getD v16 6 0)), UInt8.ofNat (Int.toNat (List.getD v16 7 0))])
                              else
                                none
                            else
                              some (false)
                          else
                            some (false)
                        else
                          some (true)
                    else
                      none
                  else
                    if (v2 == 6) = true then
                      if (len v14 == 32) = true then
                        if idN 0 ≤ 8 ∧ 8 ≤ List.length v14 then
                          (unbytes (List.take 8 (List.drop 0 v14))).bind fun v20 =>
                          some (v20 == [UInt8.ofNat (Int.toNat (List.getD v16 0 0)), UInt8.ofNat (Int.toNat (List.getD v16 1 0)), UInt8.ofNat (Int.toNat (List.getD v16 2 0)), UInt8.ofNat (Int.toNat (List.getD v16 3 0)), UInt8.ofNat (Int.toNat (List.getD v16 4 0)), UInt8.ofNat (Int.toNat (List.getD v16 5 0)), UInt8.ofNat (Int.toNat (List.getD v16 6 0)), UInt8.ofNat (Int.toNat (List.getD v16 7 0))])
                        else
                          none
                      else
                        some (false)
                    else
                      some (false)
                else
                  if (v2 == 6) = true then
                    if (len v14 == 32) = true then
                      if idN 0 ≤ 8 ∧ 8 ≤ List.length v14 then
                        (unbytes (List.take 8 (List.drop 0 v14))).bind fun v21 =>
                        some (v21 == [UInt8.ofNat (Int.toNat (List.getD v16 0 0)), UInt8.ofNat (Int.toNat (List.getD v16 1 0)), UInt8.ofNat (Int.toNat (List.getD v16 2 0)), UInt8.ofNat (Int.toNat (List.getD v16 3 0)), UInt8.ofNat (Int.toNat (List.getD v16 4 0)), UInt8.ofNat (Int.toNat (List.getD v16 5 0)), UInt8.ofNat (Int.toNat (List.getD v16 6 0)), UInt8.ofNat (Int.toNat (List.getD v16 7 0))])
                      else
                        none
                    else
                      some (false)
                  else
                    some (false) : Option Bool).bind fun v22 =>
              ((F_affiantlaw23_alive PUnit.unit : Option Bool).bind fun (v23 : Bool) =>
                  if v23 = true then
                      if (v13 == 0) = true then
                        if (v15 == 0) = true then
                          if (v17 == 0) = true then
                            (unbytes (all v12)).bind fun v24 =>
                            (unbytes v0).bind fun v25 =>
                              if (v24 == v25) = true then
                                  some (v22)
                                else
                                  some (false)
                          else
                            some (false)
                        else
                          some (false)
                      else
                        some (false)
                    else
                      some (false) : Option Bool).bind fun v26 =>
                some (v26)
noncomputable def fn_affiantlaw23_KeyOnly : Fn := ⟨8, [.v (.lst true 1)], .pure (.one (.t (.v .bool))) 1, F_affiantlaw23_KeyOnly⟩
theorem t_affiantlaw23_KeyOnly : GoodAt Try.prog HH HSP 19 fn_affiantlaw23_KeyOnly := goodAt_of (ho := HO) (l := [fn_affiantlaw23_alive, fn_key_Parse, fn_affiantref23_Equal, fn_key_Emit, fn_key_Print, fn_key_ID]) rfl (hl1 (t_affiantlaw23_alive.up (by decide)) (hl1 (t_key_Parse.up (by decide)) (hl1 (t_affiantref23_Equal.up (by decide)) (hl1 (t_key_Emit.up (by decide)) (hl1 (t_key_Print.up (by decide)) (hl1 (t_key_ID.up (by decide)) hl0)))))) fun x => by kernel_rfl


end Go.Proofs.Ytffofdfikmpanaa.A
