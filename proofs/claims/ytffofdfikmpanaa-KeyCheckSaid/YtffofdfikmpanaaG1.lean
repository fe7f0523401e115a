/- What the program's functions come to. Conditions: none. -/
import Derived.Test.YtffofdfikmpanaaLE
import Derived.Test.YtffofdfikmpanaaChecked
set_option linter.unusedVariables false
set_option linter.unusedSimpArgs false
set_option linter.constructorNameAsVariable false
set_option linter.unusedSectionVars false
namespace Go.Proofs.Ytffofdfikmpanaa.A
open Go Go.Proofs
open List (getD)
set_option maxRecDepth 100000
noncomputable def HH : Hints := { ht := fun f => match Try.prog.funcs[f]? with | some fn => funcHTz (match f with | 103 => [2] | 67 => [2] | 86 => [2] | 168 => [2] | 135 => [2] | 101 => [2] | _ => []) fn | none => .z, mode := fun f k => match f, k with | 103, 0 => 2 | 109, 0 => 2 | 73, 0 => 2 | 134, 0 => 2 | 100, 0 => 2 | 61, 0 => 2 | 61, 1 => 2 | 60, 0 => 2 | 54, 0 => 2 | 54, 1 => 2 | 168, 0 => 2 | _, _ => 0, give := fun f d => match f with | 49 => [6].contains d | 183 => [4].contains d | 150 => [2].contains d | 121 => [4].contains d | 56 => [2].contains d | 46 => [2].contains d | 62 => [6].contains d | 35 => [6].contains d | 133 => [4].contains d | 100 => [2].contains d | 61 => [4].contains d | 34 => [2].contains d | 11 => [2].contains d | 32 => [2].contains d | 63 => [4].contains d | 65 => [4].contains d | 40 => [2].contains d | _ => false, same := fun f => [148, 147].contains f, nat := fun f => match f with | 148 => 1 | 147 => 2 | _ => 0, raw := fun t => [].contains t, iter := fun f caps => match f, caps with | 146, [.ref _ [.sl _ _ _ es]] => downItems .u32 es | _, _ => none, mv := fun f d => match f with | 215 => [31].contains d | 219 => [31].contains d | 223 => [31].contains d | _ => false }
noncomputable def HO : Ho := { item := fun f => match f with | 146 => [.int .i64, .int .u32] | _ => [], bigT := fun t => [25, 140, 165, 182, 197, 201, 204].contains t, bigF := fun f i => match f with | 85 => [29, 30].contains i | 33 => [16, 17].contains i | 125 => [15, 51].contains i | 90 => [15].contains i | 89 => [0].contains i | 58 => [0, 20].contains i | 28 => [25].contains i | 75 => [0, 9].contains i | 55 => [0, 20].contains i | 27 => [20].contains i | 39 => [17].contains i | _ => false, nodeR := fun t => match t with | 54 => some [.arr .u8 8] | 80 => some [.arr .u64 4] | 81 => some [.arr .u64 4] | 82 => some [.arr .u64 4, .arr .u64 4] | 83 => some [.arr .u64 4, .arr .u64 4] | 142 => some [.arr .u64 8] | 162 => some [.arr .u32 5] | 172 => some [.arr .u32 8] | 196 => some [.arr .u32 4] | _ => none }
noncomputable def HSP : Told := fun f => match f with | 51 => some (fun args => match args with | [.v (.sl true false 1 es)] => if es.length ≤ 2147483648 then some (.own 5 es, [.dead]) else none | _ => none) | _ => none
noncomputable def F_bytes_Clone : Ps [.v (.lst true 1)] → Option (Rc.I (.pure (.one (.t (.own 5))) 1)) := fun l => if l.length ≤ 2147483648 then some l else none
noncomputable def fn_bytes_Clone : Fn := ⟨51, [.v (.lst true 1)], .pure (.one (.t (.own 5))) 1, F_bytes_Clone⟩
theorem t_bytes_Clone : GoodAt Try.prog HH HSP 1 fn_bytes_Clone := goodAt_told rfl fun (x : List V) y h => by have h : (if x.length ≤ 2147483648 then some x else none) = some y := h; split at h <;> first | (rename_i hx; cases h; exact if_pos hx) | cases h
@[reducible] def rapi_Key : List Cc := [.int .i64, .int .u32, .int .i64, .lst false 1, .lst false 1, .arr .u8 32]
@[reducible] def rapi_Point : List Cc := [.arr .u64 4, .arr .u64 4]
noncomputable def F_affiantref01_Put : Ps [.v (.lst true 1), .v (.int .u64), .v (.int .i64)] → Option (Rc.I (.pure (.tup [.t (.own 5), .t (.v (.int .i64))]) 3)) := fun ((v0, v1, v2) : ((List V) × (Int × Int))) =>
 (if decide (v2 < 1) = false then
   if decide (v2 > 8) = false then
    if decide (v2 < 8) = true then
     if wu64 (w64 (8 * v2)) < 0 then
      none
     else
      some (decide (v1 ≥ wordShl .u64 1 (wu64 (w64 (8 * v2)))))
    else
     some (false)
   else
    some (true)
  else
   some (true) : Option Bool).bind fun v3 =>
 if v3 = true then
   some ((nilV, 1))
  else
   if 0 + List.length v0 ≤ 2147483648 then
    loopO (σ := (Int × ((List V) × Int))) (R := ((List V) × Int)) (fun (v4, v5, v6) =>
     if decide (v6 ≥ 0) = true then
      if wu64 (w64 (8 * v6)) < 0 then
       none
      else
       if List.length (all v5) + 1 ≤ 2147483648 then
        some (.inl ((v4, all v5 ++ [V.int .u8 (wu8 (wordShr .u64 v4 (wu64 (w64 (8 * v6)))))], w64 (v6 - 1))))
       else
        none
     else
      some (.inr ((all v5, 0)))) ((v1, v0, w64 (v2 - 1)))
   else
    none
noncomputable def fn_affiantref01_Put : Fn := ⟨49, [.v (.lst true 1), .v (.int .u64), .v (.int .i64)], .pure (.tup [.t (.own 5), .t (.v (.int .i64))]) 3, F_affiantref01_Put⟩
theorem t_affiantref01_Put : GoodAt Try.prog HH HSP 1 fn_affiantref01_Put := goodAt_of (ho := HO) (l := []) rfl hl0 fun x => by kernel_rfl
noncomputable def F_affiantref04_digit : Ps [.v (.lst true 1), .v (.int .i64)] → Option (Rc.I (.pure (.one (.t (.v (.int .u64)))) 2)) := fun ((v0, v1) : ((List V) × Int)) =>
 if decide (v1 < len v0) = true then
  if 0 ≤ v1 then
   (v0[Int.toNat v1]?).bind fun v2 =>
   (V.int? .u64 v2).bind fun v3 =>
    some (v3)
  else
   none
 else
  some (0)
noncomputable def fn_affiantref04_digit : Fn := ⟨102, [.v (.lst true 1), .v (.int .i64)], .pure (.one (.t (.v (.int .u64)))) 2, F_affiantref04_digit⟩
theorem t_affiantref04_digit : GoodAt Try.prog HH HSP 1 fn_affiantref04_digit := goodAt_of (ho := HO) (l := []) rfl hl0 fun x => by kernel_rfl
noncomputable def F_affiantref04_fill : Ps [.v (.lst true 1), .v (.int .i64)] → Option (Rc.I (.pure (.one (.t (.own 5))) 2)) := fun ((v0, v1) : ((List V) × Int)) =>
 if 0 ≤ v1 ∧ v1 ≤ v1 ∧ v1 ≤ 2147483648 then
  loopO (σ := ((List V) × (Int × ((List V) × Int)))) (R := (List V)) (fun (v2, v3, v4, v5) =>
   if decide (v5 < v3) = true then
    (F_affiantref04_digit (v2, w64 (Int.tdiv v5 2)) : Option Int).bind fun (v6 : Int) =>
    (if (Int.tmod v5 2 == 1) = true then
       some (.inl (wu64 (Int.tdiv v6 256)))
      else
       some (.inl (v6)) : Option (Int ⊕ (((List V) × (Int × ((List V) × Int))) ⊕ (List V)))).bind fun v7 =>
     match v7 with
      | .inl v8 =>
       if 0 ≤ w64 (w64 (v3 - 1) - v5) ∧ w64 (w64 (v3 - 1) - v5) < len v4 then
        (v4[0 + Int.toNat (w64 (w64 (v3 - 1) - v5))]?).bind fun v9 =>
        some (.inl ((v2, v3, List.set v4 (0 + Int.toNat (w64 (w64 (v3 - 1) - v5))) (storeEl v9 0 [V.int .u8 (wu8 v8)]), w64 (v5 + 1))))
       else
        none
      | .inr v10 =>
       some (v10)
   else
    some (.inr (all v4))) ((v0, v1, rep (Int.toNat v1) (V.int .u8 0), 0))
 else
  none
noncomputable def fn_affiantref04_fill : Fn := ⟨183, [.v (.lst true 1), .v (.int .i64)], .pure (.one (.t (.own 5))) 2, F_affiantref04_fill⟩
theorem t_affiantref04_fill : GoodAt Try.prog HH HSP 2 fn_affiantref04_fill := goodAt_of (ho := HO) (l := [fn_affiantref04_digit]) rfl (hl1 (t_affiantref04_digit.up (by decide)) hl0) fun x => by kernel_rfl
noncomputable def F_affiantref04_trim : Ps [.v (.lst false 1)] → Option (Rc.I (.pure (.one (.t (.v (.lst false 1)))) 1)) := fun (v0 : (List V)) =>
 loopO (σ := ((List V) × Int)) (R := (List V)) (fun (v1, v2) =>
  (if decide (v2 > 0) = true then
    if 0 ≤ w64 (v2 - 1) then
     (v1[Int.toNat (w64 (v2 - 1))]?).bind fun v3 =>
     (V.int? .u64 v3).bind fun v4 =>
      some (v4 == 0)
    else
     none
   else
    some (false) : Option Bool).bind fun v5 =>
  if v5 = true then
    some (.inl ((v1, w64 (v2 - 1))))
   else
    (if 0 ≤ v2 then
      if 0 ≤ Int.toNat v2 ∧ Int.toNat v2 ≤ List.length v1 then
       some (List.take (Int.toNat v2) (List.drop 0 v1))
      else
       none
     else
      none : Option (List V)).bind fun v6 =>
    some (.inr (v6))) ((v0, len v0))
noncomputable def fn_affiantref04_trim : Fn := ⟨103, [.v (.lst false 1)], .pure (.one (.t (.v (.lst false 1)))) 1, F_affiantref04_trim⟩
theorem t_affiantref04_trim : GoodAt Try.prog HH HSP 1 fn_affiantref04_trim := goodAt_of (ho := HO) (l := []) rfl hl0 fun x => by kernel_rfl
noncomputable def F_affiantref04_Digits : Ps [.v (.lst true 1)] → Option (Rc.I (.pure (.one (.t (.v (.lst false 1)))) 1)) := fun (v0 : (List V)) =>
 loopO (σ := ((List V) × ((List V) × Int))) (R := (List V)) (fun (v1, v2, v3) =>
  if decide (v3 < len v1) = true then
   if 0 ≤ v3 then
    (v1[Int.toNat v3]?).bind fun v4 =>
    (V.int? .u32 v4).bind fun v5 =>
     if 0 ≤ v3 then
       (v1[Int.toNat v3]?).bind fun v6 =>
       (V.int? .u32 v6).bind fun v7 =>
        if List.length (all v2) + 2 ≤ 2147483648 then
          some (.inl ((v1, all v2 ++ [V.int .u64 (wu64 (Int.tmod v5 65536)), V.int .u64 (wu64 (wu32 (Int.tdiv v7 65536)))], w64 (v3 + 1))))
         else
          none
      else
       none
   else
    none
  else
   ((F_affiantref04_trim (all v2) : Option (List V)).bind fun (v8 : (List V)) =>
    some (v8) : Option (List V)).bind fun v9 =>
   some (.inr (v9))) ((v0, nilV, 0))
noncomputable def fn_affiantref04_Digits : Fn := ⟨67, [.v (.lst true 1)], .pure (.one (.t (.v (.lst false 1)))) 1, F_affiantref04_Digits⟩
theorem t_affiantref04_Digits : GoodAt Try.prog HH HSP 2 fn_affiantref04_Digits := goodAt_of (ho := HO) (l := [fn_affiantref04_trim]) rfl (hl1 (t_affiantref04_trim.up (by decide)) hl0) fun x => by kernel_rfl
noncomputable def F_affiantref04_Bits : Ps [.v (.lst true 1)] → Option (Rc.I (.pure (.one (.t (.v (.int .i64)))) 1)) := fun (v0 : (List V)) =>
 (F_affiantref04_Digits v0 : Option (List V)).bind fun (v1 : (List V)) =>
 if (len v1 == 0) = true then
   some (0)
  else
   if 0 ≤ w64 (len v1 - 1) then
    (v1[Int.toNat (w64 (len v1 - 1))]?).bind fun v2 =>
    (V.int? .u64 v2).bind fun v3 =>
     loopO (σ := (Int × Int)) (R := Int) (fun (v4, v5) =>
       if decide (v5 > 0) = true then
        some (.inl ((w64 (v4 + 1), wu64 (Int.tdiv v5 2))))
       else
        some (.inr (v4))) ((w64 (16 * w64 (len v1 - 1)), v3))
   else
    none
noncomputable def fn_affiantref04_Bits : Fn := ⟨87, [.v (.lst true 1)], .pure (.one (.t (.v (.int .i64)))) 1, F_affiantref04_Bits⟩
theorem t_affiantref04_Bits : GoodAt Try.prog HH HSP 3 fn_affiantref04_Bits := goodAt_of (ho := HO) (l := [fn_affiantref04_Digits]) rfl (hl1 (t_affiantref04_Digits.up (by decide)) hl0) fun x => by kernel_rfl
noncomputable def F_affiantref04_Bytes : Ps [.v (.lst true 1)] → Option (Rc.I (.pure (.one (.t (.own 5))) 1)) := fun (v0 : (List V)) =>
 (F_affiantref04_Digits v0 : Option (List V)).bind fun (v1 : (List V)) =>
 (F_affiantref04_Bits v0 : Option Int).bind fun (v2 : Int) =>
  (F_affiantref04_fill (v1, w64 (Int.tdiv (w64 (v2 + 7)) 8)) : Option (List V)).bind fun (v3 : (List V)) =>
   some (v3)
noncomputable def fn_affiantref04_Bytes : Fn := ⟨150, [.v (.lst true 1)], .pure (.one (.t (.own 5))) 1, F_affiantref04_Bytes⟩
theorem t_affiantref04_Bytes : GoodAt Try.prog HH HSP 4 fn_affiantref04_Bytes := goodAt_of (ho := HO) (l := [fn_affiantref04_Digits, fn_affiantref04_Bits, fn_affiantref04_fill]) rfl (hl1 (t_affiantref04_Digits.up (by decide)) (hl1 (t_affiantref04_Bits.up (by decide)) (hl1 (t_affiantref04_fill.up (by decide)) hl0))) fun x => by kernel_rfl
noncomputable def F_affiantref20_Put : Ps [.v (.lst true 1), .v (.lst true 1)] → Option (Rc.I (.pure (.tup [.t (.own 5), .t (.v (.int .i64))]) 2)) := fun ((v0, v1) : ((List V) × (List V))) =>
 (F_affiantref04_Bits v1 : Option Int).bind fun (v2 : Int) =>
 if decide (v2 > 16384) = true then
   some ((nilV, 4))
  else
   (F_affiantref01_Put (v0, wu64 v2, 2) : Option ((List V) × Int)).bind fun ((v3, v4) : ((List V) × Int)) =>
   (F_affiantref04_Bytes v1 : Option (List V)).bind fun (v5 : (List V)) =>
    if List.length (all v3) + List.length (all v5) ≤ 2147483648 then
      some ((all v3 ++ all v5, 0))
     else
      none
noncomputable def fn_affiantref20_Put : Fn := ⟨121, [.v (.lst true 1), .v (.lst true 1)], .pure (.tup [.t (.own 5), .t (.v (.int .i64))]) 2, F_affiantref20_Put⟩
theorem t_affiantref20_Put : GoodAt Try.prog HH HSP 5 fn_affiantref20_Put := goodAt_of (ho := HO) (l := [fn_affiantref04_Bits, fn_affiantref01_Put, fn_affiantref04_Bytes]) rfl (hl1 (t_affiantref04_Bits.up (by decide)) (hl1 (t_affiantref01_Put.up (by decide)) (hl1 (t_affiantref04_Bytes.up (by decide)) hl0))) fun x => by kernel_rfl
noncomputable def F_affiantref23_material : Ps [.v (.st rapi_Key)] → Option (Rc.I (.pure (.one (.t (.v (.lst false 1)))) 1)) := fun ((v0, v1, v2, v3, v4, v5) : (Int × (Int × (Int × ((List V) × ((List V) × (List Int))))))) =>
 if (v2 == 27) = true then
  some (List.take 32 (List.drop 5 (V.int .i64 v0 :: V.int .u32 v1 :: V.int .i64 v2 :: V.sl false false 1 v3 :: V.sl false false 1 v4 :: arrV .u8 v5 0 32)))
 else
  (F_affiantref20_Put (nilV, v3) : Option ((List V) × Int)).bind fun ((v6, v7) : ((List V) × Int)) =>
  (F_affiantref20_Put (all v6, v4) : Option ((List V) × Int)).bind fun ((v8, v9) : ((List V) × Int)) =>
   some (all v8)
noncomputable def fn_affiantref23_material : Fn := ⟨86, [.v (.st rapi_Key)], .pure (.one (.t (.v (.lst false 1)))) 1, F_affiantref23_material⟩
theorem t_affiantref23_material : GoodAt Try.prog HH HSP 6 fn_affiantref23_material := goodAt_of (ho := HO) (l := [fn_affiantref20_Put]) rfl (hl1 (t_affiantref20_Put.up (by decide)) hl0) fun x => by kernel_rfl
noncomputable def F_affiantref23_may : Ps [.v (.st rapi_Key)] → Option (Rc.I (.pure (.one (.t (.v .bool))) 1)) := fun ((v0, v1, v2, v3, v4, v5) : (Int × (Int × (Int × ((List V) × ((List V) × (List Int))))))) =>
 (if (v0 != 4) = true then
   some (v0 != 6)
  else
   some (false) : Option Bool).bind fun v6 =>
 if v6 = true then
   some (false)
  else
   if (v2 == 27) = true then
    (if (len v3 == 0) = true then
      some (len v4 == 0)
     else
      some (false) : Option Bool).bind fun v7 =>
    some (v7)
   else
    (if (v2 == 1) = true then
      if (fitI v5 0 32 == rep 32 0) = true then
       (F_affiantref04_Bits v3 : Option Int).bind fun (v8 : Int) =>
       if decide (v8 ≤ 16384) = true then
         (F_affiantref04_Bits v4 : Option Int).bind fun (v9 : Int) =>
         some (decide (v9 ≤ 16384))
        else
         some (false)
      else
       some (false)
     else
      some (false) : Option Bool).bind fun v10 =>
    some (v10)
noncomputable def fn_affiantref23_may : Fn := ⟨85, [.v (.st rapi_Key)], .pure (.one (.t (.v .bool))) 1, F_affiantref23_may⟩
theorem t_affiantref23_may : GoodAt Try.prog HH HSP 4 fn_affiantref23_may := goodAt_of (ho := HO) (l := [fn_affiantref04_Bits]) rfl (hl1 (t_affiantref04_Bits.up (by decide)) hl0) fun x => by kernel_rfl
noncomputable def F_affiantref23_Emit : Ps [.v (.st rapi_Key)] → Option (Rc.I (.pure (.tup [.t (.own 5), .t (.v (.int .i64))]) 1)) := fun ((v0, v1, v2, v3, v4, v5) : (Int × (Int × (Int × ((List V) × ((List V) × (List Int))))))) =>
 (F_affiantref23_may (v0, v1, v2, v3, v4, fitI v5 0 32) : Option Bool).bind fun (v6 : Bool) =>
 if (!v6) = true then
   some ((nilV, 1))
  else
   (F_affiantref01_Put ([V.int .u8 (wu8 v0)], wu64 v1, 4) : Option ((List V) × Int)).bind fun ((v7, v8) : ((List V) × Int)) =>
   if List.length (all v7) + 1 ≤ 2147483648 then
     (F_affiantref23_material (v0, v1, v2, v3, v4, fitI v5 0 32) : Option (List V)).bind fun (v9 : (List V)) =>
     (if (v0 == 6) = true then
        (F_affiantref01_Put (all (all v7 ++ [V.int .u8 (wu8 v2)]), wu64 (len v9), 4) : Option ((List V) × Int)).bind fun ((v10, v11) : ((List V) × Int)) =>
        some (.inl ((v10, v9)))
       else
        some (.inl ((all v7 ++ [V.int .u8 (wu8 v2)], v9))) : Option (((List V) × (List V)) ⊕ ((List V) × Int))).bind fun v12 =>
      match v12 with
       | .inl (v13, v14) =>
        if List.length (all v13) + List.length v14 ≤ 2147483648 then
         some ((all v13 ++ v14, 0))
        else
         none
       | .inr (v15, v16) =>
        some ((v15, v16))
    else
     none
noncomputable def fn_affiantref23_Emit : Fn := ⟨56, [.v (.st rapi_Key)], .pure (.tup [.t (.own 5), .t (.v (.int .i64))]) 1, F_affiantref23_Emit⟩
theorem t_affiantref23_Emit : GoodAt Try.prog HH HSP 7 fn_affiantref23_Emit := goodAt_of (ho := HO) (l := [fn_affiantref23_may, fn_affiantref01_Put, fn_affiantref23_material]) rfl (hl1 (t_affiantref23_may.up (by decide)) (hl1 (t_affiantref01_Put.up (by decide)) (hl1 (t_affiantref23_material.up (by decide)) hl0))) fun x => by kernel_rfl
noncomputable def F_affiantref23_Image : Ps [.v (.st rapi_Key)] → Option (Rc.I (.pure (.tup [.t (.own 5), .t (.v (.int .i64))]) 1)) := fun ((v0, v1, v2, v3, v4, v5) : (Int × (Int × (Int × ((List V) × ((List V) × (List Int))))))) =>
 (F_affiantref23_Emit (v0, v1, v2, v3, v4, fitI v5 0 32) : Option ((List V) × Int)).bind fun ((v6, v7) : ((List V) × Int)) =>
 if (v7 != 0) = true then
   some ((nilV, v7))
  else
   (if (v0 == 6) = true then
     some (.inl ((155, 4)))
    else
     some (.inl ((153, 2))) : Option ((Int × Int) ⊕ ((List V) × Int))).bind fun v8 =>
   match v8 with
    | .inl (v9, v10) =>
     (F_affiantref01_Put ([V.int .u8 v9], wu64 (len v6), v10) : Option ((List V) × Int)).bind fun ((v11, v12) : ((List V) × Int)) =>
     if List.length (all v11) + List.length (all v6) ≤ 2147483648 then
       some ((all v11 ++ all v6, 0))
      else
       none
    | .inr (v13, v14) =>
     some ((v13, v14))
noncomputable def fn_affiantref23_Image : Fn := ⟨46, [.v (.st rapi_Key)], .pure (.tup [.t (.own 5), .t (.v (.int .i64))]) 1, F_affiantref23_Image⟩
theorem t_affiantref23_Image : GoodAt Try.prog HH HSP 8 fn_affiantref23_Image := goodAt_of (ho := HO) (l := [fn_affiantref23_Emit, fn_affiantref01_Put]) rfl (hl1 (t_affiantref23_Emit.up (by decide)) (hl1 (t_affiantref01_Put.up (by decide)) hl0)) fun x => by kernel_rfl
noncomputable def F_affiantref23_Same : Ps [.v (.st rapi_Key), .v (.st rapi_Key)] → Option (Rc.I (.pure (.one (.t (.v .bool))) 2)) := fun (((v0, v1, v2, v3, v4, v5), v6, v7, v8, v9, v10, v11) : ((Int × (Int × (Int × ((List V) × ((List V) × (List Int)))))) × (Int × (Int × (Int × ((List V) × ((List V) × (List Int)))))))) =>
 (F_affiantref23_Image (v0, v1, v2, v3, v4, fitI v5 0 32) : Option ((List V) × Int)).bind fun ((v12, v13) : ((List V) × Int)) =>
 (F_affiantref23_Image (v6, v7, v8, v9, v10, fitI v11 0 32) : Option ((List V) × Int)).bind fun ((v14, v15) : ((List V) × Int)) =>
  (if (v13 == 0) = true then
     if (v15 == 0) = true then
      (unbytes (all v12)).bind fun v16 =>
      (unbytes (all v14)).bind fun v17 =>
       some (v16 == v17)
     else
      some (false)
    else
     some (false) : Option Bool).bind fun v18 =>
   some (v18)
noncomputable def fn_affiantref23_Same : Fn := ⟨29, [.v (.st rapi_Key), .v (.st rapi_Key)], .pure (.one (.t (.v .bool))) 2, F_affiantref23_Same⟩
theorem t_affiantref23_Same : GoodAt Try.prog HH HSP 9 fn_affiantref23_Same := goodAt_of (ho := HO) (l := [fn_affiantref23_Image]) rfl (hl1 (t_affiantref23_Image.up (by decide)) hl0) fun x => by kernel_rfl
noncomputable def F_bytes_Equal : Ps [.v (.lst true 1), .v (.lst true 1)] → Option (Rc.I (.pure (.one (.t (.v .bool))) 2)) := fun ((v0, v1) : ((List V) × (List V))) =>
 (unbytes v0).bind fun v2 =>
 (unbytes v1).bind fun v3 =>
  some (v2 == v3)
noncomputable def fn_bytes_Equal : Fn := ⟨42, [.v (.lst true 1), .v (.lst true 1)], .pure (.one (.t (.v .bool))) 2, F_bytes_Equal⟩
theorem t_bytes_Equal : GoodAt Try.prog HH HSP 1 fn_bytes_Equal := goodAt_of (ho := HO) (l := []) rfl hl0 fun x => by kernel_rfl
noncomputable def F_cursor_Put : Ps [.v (.lst true 1), .v (.int .u64), .v (.int .i64)] → Option (Rc.I (.pure (.tup [.t (.own 5), .t (.v (.int .i64))]) 3)) := fun ((v0, v1, v2) : ((List V) × (Int × Int))) =>
 (if decide (v2 < 1) = false then
   if decide (v2 > 8) = false then
    if decide (v2 < 8) = true then
     if w64 (8 * v2) < 0 then
      none
     else
      some (wordShr .u64 v1 (w64 (8 * v2)) != 0)
    else
     some (false)
   else
    some (true)
  else
   some (true) : Option Bool).bind fun v3 =>
 if v3 = true then
   some ((nilV, 1))
  else
   if 0 ≤ len v0 ∧ len v0 ≤ w64 (len v0 + v2) ∧ w64 (len v0 + v2) ≤ 2147483648 then
    loopO (σ := (Int × ((List V) × Int))) (R := ((List V) × Int)) (fun (v4, v5, v6) =>
     if decide (v6 ≥ 0) = true then
      if v6 < 0 then
       none
      else
       if List.length (all v5) + 1 ≤ 2147483648 then
        some (.inl ((v4, all v5 ++ [V.int .u8 (wu8 (wordShr .u64 v4 v6))], w64 (v6 - 8))))
       else
        none
     else
      some (.inr ((all v5, 0)))) ((v1, List.take (min (List.length (rep (List.length v0) (V.int .u8 0))) (List.length v0)) v0 ++ List.drop (0 + min (List.length (rep (List.length v0) (V.int .u8 0))) (List.length v0)) (rep (List.length v0) (V.int .u8 0)), w64 (8 * w64 (v2 - 1))))
   else
    none
noncomputable def fn_cursor_Put : Fn := ⟨62, [.v (.lst true 1), .v (.int .u64), .v (.int .i64)], .pure (.tup [.t (.own 5), .t (.v (.int .i64))]) 3, F_cursor_Put⟩
theorem t_cursor_Put : GoodAt Try.prog HH HSP 1 fn_cursor_Put := goodAt_of (ho := HO) (l := []) rfl hl0 fun x => by kernel_rfl
noncomputable def F_key_put : Ps [.v (.lst true 1), .v (.int .i64), .v (.int .i64)] → Option (Rc.I (.pure (.one (.t (.own 5))) 3)) := fun ((v0, v1, v2) : ((List V) × (Int × Int))) =>
 (F_cursor_Put (v0, wu64 v1, v2) : Option ((List V) × Int)).bind fun ((v3, v4) : ((List V) × Int)) =>
 some (all v3)
noncomputable def fn_key_put : Fn := ⟨35, [.v (.lst true 1), .v (.int .i64), .v (.int .i64)], .pure (.one (.t (.own 5))) 3, F_key_put⟩
theorem t_key_put : GoodAt Try.prog HH HSP 2 fn_key_put := goodAt_of (ho := HO) (l := [fn_cursor_Put]) rfl (hl1 (t_cursor_Put.up (by decide)) hl0) fun x => by kernel_rfl
noncomputable def F_nat_word : Ps [.v (.lst true 1), .v (.int .i64)] → Option (Rc.I (.pure (.one (.t (.v (.int .u32)))) 2)) := fun ((v0, v1) : ((List V) × Int)) =>
 if decide (v1 < len v0) = true then
  if 0 ≤ v1 then
   (v0[Int.toNat v1]?).bind fun v2 =>
   (V.int? .u32 v2).bind fun v3 =>
    some (v3)
  else
   none
 else
  some (0)
noncomputable def fn_nat_word : Fn := ⟨167, [.v (.lst true 1), .v (.int .i64)], .pure (.one (.t (.v (.int .u32)))) 2, F_nat_word⟩
theorem t_nat_word : GoodAt Try.prog HH HSP 1 fn_nat_word := goodAt_of (ho := HO) (l := []) rfl hl0 fun x => by kernel_rfl
noncomputable def F_nat_lay : Ps [.v (.lst true 1), .v (.int .i64)] → Option (Rc.I (.pure (.one (.t (.own 5))) 2)) := fun ((v0, v1) : ((List V) × Int)) =>
 if 0 ≤ v1 ∧ v1 ≤ v1 ∧ v1 ≤ 2147483648 then
  loopO (σ := ((List V) × (Int × ((List V) × (Int × Int))))) (R := (List V)) (fun (v2, v3, v4, v5, v6) =>
   if decide (v6 < v5) = true then
    (F_nat_word (v2, w64 (Int.tdiv v6 4)) : Option Int).bind fun (v7 : Int) =>
    if w64 (8 * Int.tmod v6 4) < 0 then
      none
     else
      if 0 ≤ w64 (w64 (v3 - 1) - v6) ∧ w64 (w64 (v3 - 1) - v6) < len v4 then
       (v4[0 + Int.toNat (w64 (w64 (v3 - 1) - v6))]?).bind fun v8 =>
       some (.inl ((v2, v3, List.set v4 (0 + Int.toNat (w64 (w64 (v3 - 1) - v6))) (storeEl v8 0 [V.int .u8 (wu8 (wordShr .u32 v7 (w64 (8 * Int.tmod v6 4))))]), v5, w64 (v6 + 1))))
      else
       none
   else
    some (.inr (all v4))) ((v0, v1, rep (Int.toNat v1) (V.int .u8 0), len (rep (Int.toNat v1) (V.int .u8 0)), 0))
 else
  none
noncomputable def fn_nat_lay : Fn := ⟨133, [.v (.lst true 1), .v (.int .i64)], .pure (.one (.t (.own 5))) 2, F_nat_lay⟩
theorem t_nat_lay : GoodAt Try.prog HH HSP 2 fn_nat_lay := goodAt_of (ho := HO) (l := [fn_nat_word]) rfl (hl1 (t_nat_word.up (by decide)) hl0) fun x => by kernel_rfl
noncomputable def F_math_bits_Len32 : Ps [.v (.int .u32)] → Option (Rc.I (.pure (.one (.t (.v (.int .i64)))) 1)) := fun (v0 : Int) =>
 (if decide (v0 ≥ 65536) = true then
   some (.inl ((wordShr .u32 v0 16, 16)))
  else
   some (.inl ((v0, 0))) : Option ((Int × Int) ⊕ Int)).bind fun v1 =>
 match v1 with
  | .inl (v2, v3) =>
   (if decide (v2 ≥ 256) = true then
     some (.inl ((wordShr .u32 v2 8, w64 (v3 + 8))))
    else
     some (.inl ((v2, v3))) : Option ((Int × Int) ⊕ Int)).bind fun v4 =>
   match v4 with
    | .inl (v5, v6) =>
     if 0 ≤ wu8 v5 then
      ((List.append (List.append (by8 [0, 1, 2, 2, 3, 3, 3, 3, 4, 4, 4, 4, 4, 4, 4, 4, 5, 5, 5, 5, 5, 5, 5, 5, 5, 5, 5, 5, 5, 5, 5, 5, 6, 6, 6, 6, 6, 6, 6, 6, 6, 6, 6, 6, 6, 6, 6, 6, 6, 6, 6, 6, 6, 6, 6, 6, 6, 6, 6, 6, 6, 6, 6, 6]) (by8 [7, 7, 7, 7, 7, 7, 7, 7, 7, 7, 7, 7, 7, 7, 7, 7, 7, 7, 7, 7, 7, 7, 7, 7, 7, 7, 7, 7, 7, 7, 7, 7, 7, 7, 7, 7, 7, 7, 7, 7, 7, 7, 7, 7, 7, 7, 7, 7, 7, 7, 7, 7, 7, 7, 7, 7, 7, 7, 7, 7, 7, 7, 7, 7])) (List.append (by8 [8, 8, 8, 8, 8, 8, 8, 8, 8, 8, 8, 8, 8, 8, 8, 8, 8, 8, 8, 8, 8, 8, 8, 8, 8, 8, 8, 8, 8, 8, 8, 8, 8, 8, 8, 8, 8, 8, 8, 8, 8, 8, 8, 8, 8, 8, 8, 8, 8, 8, 8, 8, 8, 8, 8, 8, 8, 8, 8, 8, 8, 8, 8, 8]) (by8 [8, 8, 8, 8, 8, 8, 8, 8, 8, 8, 8, 8, 8, 8, 8, 8, 8, 8, 8, 8, 8, 8, 8, 8, 8, 8, 8, 8, 8, 8, 8, 8, 8, 8, 8, 8, 8, 8, 8, 8, 8, 8, 8, 8, 8, 8, 8, 8, 8, 8, 8, 8, 8, 8, 8, 8, 8, 8, 8, 8, 8, 8, 8, 8])))[Int.toNat (wu8 v5)]?).bind fun v7 =>
      some (w64 (v6 + w64 (↑(UInt8.toNat v7) : Int)))
     else
      none
    | .inr v8 =>
     some (v8)
  | .inr v9 =>
   some (v9)
noncomputable def fn_math_bits_Len32 : Fn := ⟨110, [.v (.int .u32)], .pure (.one (.t (.v (.int .i64)))) 1, F_math_bits_Len32⟩
theorem t_math_bits_Len32 : GoodAt Try.prog HH HSP 1 fn_math_bits_Len32 := goodAt_of (ho := HO) (l := []) rfl hl0 fun x => by kernel_rfl
noncomputable def F_nat_down : Ps [.v (.lst false 1)] → Option (Rc.I (.pure (.one (.t (.v (.clo1 146 (.lst false 1))))) 1)) := fun (v0 : (List V)) =>
 some (v0)
noncomputable def fn_nat_down : Fn := ⟨109, [.v (.lst false 1)], .pure (.one (.t (.v (.clo1 146 (.lst false 1))))) 1, F_nat_down⟩
theorem t_nat_down : GoodAt Try.prog HH HSP 1 fn_nat_down := goodAt_of (ho := HO) (l := []) rfl hl0 fun x => by kernel_rfl
noncomputable def F_nat_Bits : Ps [.v (.lst false 1)] → Option (Rc.I (.pure (.one (.t (.v (.int .i64)))) 1)) := fun (v0 : (List V)) =>
 (F_nat_down v0 : Option (List V)).bind fun (v1 : (List V)) =>
 (downItems .u32 v1).bind fun v2 =>
  loopO (σ := ((List (List V)) × (Int × (List V)))) (R := Int) (fun (v3, v4, v5) =>
    match v3 with
    | [] =>
     some (.inr (0))
    | v6 :: v7 =>
     (v6[0]?).bind fun v8 =>
     (V.int? .i64 v8).bind fun v9 =>
      (v6[1]?).bind fun v10 =>
       (V.int? .u32 v10).bind fun v11 =>
        if List.length v6 = 2 then
          if (v11 != 0) = true then
           (F_math_bits_Len32 v11 : Option Int).bind fun (v12 : Int) =>
           some (.inr (w64 (w64 (32 * v9) + v12)))
          else
           some (.inl ((v7, v4, v5)))
         else
          none) ((v2, 0, v1))
noncomputable def fn_nat_Bits : Fn := ⟨73, [.v (.lst false 1)], .pure (.one (.t (.v (.int .i64)))) 1, F_nat_Bits⟩
theorem t_nat_Bits : GoodAt Try.prog HH HSP 2 fn_nat_Bits := goodAt_of (ho := HO) (l := [fn_nat_down, fn_math_bits_Len32]) rfl (hl1 (t_nat_down.up (by decide)) (hl1 (t_math_bits_Len32.up (by decide)) hl0)) fun x => by kernel_rfl
noncomputable def F_nat_long : Ps [.v (.lst false 1)] → Option (Rc.I (.pure (.one (.t (.v (.int .i64)))) 1)) := fun (v0 : (List V)) =>
 (F_nat_Bits v0 : Option Int).bind fun (v1 : Int) =>
 some (w64 (Int.tdiv (w64 (v1 + 7)) 8))
noncomputable def fn_nat_long : Fn := ⟨134, [.v (.lst false 1)], .pure (.one (.t (.v (.int .i64)))) 1, F_nat_long⟩
theorem t_nat_long : GoodAt Try.prog HH HSP 3 fn_nat_long := goodAt_of (ho := HO) (l := [fn_nat_Bits]) rfl (hl1 (t_nat_Bits.up (by decide)) hl0) fun x => by kernel_rfl
noncomputable def F_nat_Bytes : Ps [.v (.lst false 1)] → Option (Rc.I (.pure (.one (.t (.own 5))) 1)) := fun (v0 : (List V)) =>
 (F_nat_long v0 : Option Int).bind fun (v1 : Int) =>
 (F_nat_lay (v0, v1) : Option (List V)).bind fun (v2 : (List V)) =>
  some (v2)
noncomputable def fn_nat_Bytes : Fn := ⟨100, [.v (.lst false 1)], .pure (.one (.t (.own 5))) 1, F_nat_Bytes⟩
theorem t_nat_Bytes : GoodAt Try.prog HH HSP 4 fn_nat_Bytes := goodAt_of (ho := HO) (l := [fn_nat_long, fn_nat_lay]) rfl (hl1 (t_nat_long.up (by decide)) (hl1 (t_nat_lay.up (by decide)) hl0)) fun x => by kernel_rfl
noncomputable def F_mpi_Put : Ps [.v (.lst false 1), .v (.lst false 1)] → Option (Rc.I (.pure (.tup [.t (.own 5), .t (.v (.int .i64))]) 2)) := fun ((v0, v1) : ((List V) × (List V))) =>
 (F_nat_Bits v1 : Option Int).bind fun (v2 : Int) =>
 if decide (v2 > 16384) = true then
   some ((nilV, 4))
  else
   (F_cursor_Put (v0, wu64 v2, 2) : Option ((List V) × Int)).bind fun ((v3, v4) : ((List V) × Int)) =>
   (F_nat_Bytes v1 : Option (List V)).bind fun (v5 : (List V)) =>
    if List.length (all v3) + List.length (all v5) ≤ 2147483648 then
      some ((all v3 ++ all v5, v4))
     else
      none
noncomputable def fn_mpi_Put : Fn := ⟨61, [.v (.lst false 1), .v (.lst false 1)], .pure (.tup [.t (.own 5), .t (.v (.int .i64))]) 2, F_mpi_Put⟩
theorem t_mpi_Put : GoodAt Try.prog HH HSP 5 fn_mpi_Put := goodAt_of (ho := HO) (l := [fn_nat_Bits, fn_cursor_Put, fn_nat_Bytes]) rfl (hl1 (t_nat_Bits.up (by decide)) (hl1 (t_cursor_Put.up (by decide)) (hl1 (t_nat_Bytes.up (by decide)) hl0))) fun x => by kernel_rfl
noncomputable def F_key_material : Ps [.v (.st rapi_Key)] → Option (Rc.I (.pure (.one (.t (.own 5))) 1)) := fun ((v0, v1, v2, v3, v4, v5) : (Int × (Int × (Int × ((List V) × ((List V) × (List Int))))))) =>
 if (v2 == 27) = true then
  some (arrV .u8 v5 0 32)
 else
  (F_mpi_Put (nilV, v3) : Option ((List V) × Int)).bind fun ((v6, v7) : ((List V) × Int)) =>
  (F_mpi_Put (all v6, v4) : Option ((List V) × Int)).bind fun ((v8, v9) : ((List V) × Int)) =>
   some (all v8)
noncomputable def fn_key_material : Fn := ⟨34, [.v (.st rapi_Key)], .pure (.one (.t (.own 5))) 1, F_key_material⟩
theorem t_key_material : GoodAt Try.prog HH HSP 6 fn_key_material := goodAt_of (ho := HO) (l := [fn_bytes_Clone, fn_mpi_Put]) rfl (hl1 (t_bytes_Clone.up (by decide)) (hl1 (t_mpi_Put.up (by decide)) hl0)) fun x => by kernel_rfl
noncomputable def F_key_isShort : Ps [.v (.lst false 1)] → Option (Rc.I (.pure (.one (.t (.v .bool))) 1)) := fun (v0 : (List V)) =>
 (F_nat_Bits v0 : Option Int).bind fun (v1 : Int) =>
 some (decide (v1 ≤ 16384))
noncomputable def fn_key_isShort : Fn := ⟨60, [.v (.lst false 1)], .pure (.one (.t (.v .bool))) 1, F_key_isShort⟩
theorem t_key_isShort : GoodAt Try.prog HH HSP 3 fn_key_isShort := goodAt_of (ho := HO) (l := [fn_nat_Bits]) rfl (hl1 (t_nat_Bits.up (by decide)) hl0) fun x => by kernel_rfl
noncomputable def F_key_may : Ps [.v (.st rapi_Key)] → Option (Rc.I (.pure (.one (.t (.v .bool))) 1)) := fun ((v0, v1, v2, v3, v4, v5) : (Int × (Int × (Int × ((List V) × ((List V) × (List Int))))))) =>
 (if (v0 != 4) = true then
   some (v0 != 6)
  else
   some (false) : Option Bool).bind fun v6 =>
 if v6 = true then
   some (false)
  else
   if (v2 == 1) = true then
    (if (fitI v5 0 32 == rep 32 0) = true then
      (F_key_isShort v3 : Option Bool).bind fun (v7 : Bool) =>
      if v7 = true then
        (F_key_isShort v4 : Option Bool).bind fun (v8 : Bool) =>
        some (v8)
       else
        some (false)
     else
      some (false) : Option Bool).bind fun v9 =>
    some (v9)
   else
    if (v2 == 27) = true then
     (if (len v3 == 0) = true then
       some (len v4 == 0)
      else
       some (false) : Option Bool).bind fun v10 =>
     some (v10)
    else
     some (false)
noncomputable def fn_key_may : Fn := ⟨33, [.v (.st rapi_Key)], .pure (.one (.t (.v .bool))) 1, F_key_may⟩
theorem t_key_may : GoodAt Try.prog HH HSP 4 fn_key_may := goodAt_of (ho := HO) (l := [fn_key_isShort]) rfl (hl1 (t_key_isShort.up (by decide)) hl0) fun x => by kernel_rfl
noncomputable def F_key_Emit : Ps [.v (.st rapi_Key)] → Option (Rc.I (.pure (.tup [.t (.own 5), .t (.v (.int .i64))]) 1)) := fun ((v0, v1, v2, v3, v4, v5) : (Int × (Int × (Int × ((List V) × ((List V) × (List Int))))))) =>
 (F_key_may (v0, v1, v2, v3, v4, fitI v5 0 32) : Option Bool).bind fun (v6 : Bool) =>
 if (!v6) = true then
   some ((nilV, 1))
  else
   (F_key_material (v0, v1, v2, v3, v4, fitI v5 0 32) : Option (List V)).bind fun (v7 : (List V)) =>
   (F_key_put ([V.int .u8 (wu8 v0)], w64 v1, 4) : Option (List V)).bind fun (v8 : (List V)) =>
    if List.length v8 + 1 ≤ 2147483648 then
      (if (v0 == 6) = true then
        (F_key_put (all (v8 ++ [V.int .u8 (wu8 v2)]), len v7, 4) : Option (List V)).bind fun (v9 : (List V)) =>
        some (.inl ((v7, v9)))
       else
        some (.inl ((v7, v8 ++ [V.int .u8 (wu8 v2)]))) : Option (((List V) × (List V)) ⊕ ((List V) × Int))).bind fun v10 =>
      match v10 with
       | .inl (v11, v12) =>
        if List.length (all v12) + List.length (all v11) ≤ 2147483648 then
         some ((all v12 ++ all v11, 0))
        else
         none
       | .inr (v13, v14) =>
        some ((v13, v14))
     else
      none
noncomputable def fn_key_Emit : Fn := ⟨11, [.v (.st rapi_Key)], .pure (.tup [.t (.own 5), .t (.v (.int .i64))]) 1, F_key_Emit⟩
theorem t_key_Emit : GoodAt Try.prog HH HSP 7 fn_key_Emit := goodAt_of (ho := HO) (l := [fn_key_may, fn_key_material, fn_key_put]) rfl (hl1 (t_key_may.up (by decide)) (hl1 (t_key_material.up (by decide)) (hl1 (t_key_put.up (by decide)) hl0))) fun x => by kernel_rfl
noncomputable def F_key_Image : Ps [.v (.st rapi_Key)] → Option (Rc.I (.pure (.tup [.t (.own 5), .t (.v (.int .i64))]) 1)) := fun ((v0, v1, v2, v3, v4, v5) : (Int × (Int × (Int × ((List V) × ((List V) × (List Int))))))) =>
 (F_key_Emit (v0, v1, v2, v3, v4, fitI v5 0 32) : Option ((List V) × Int)).bind fun ((v6, v7) : ((List V) × Int)) =>
 if (v7 != 0) = true then
   some ((nilV, v7))
  else
   if (v0 == 6) = true then
    (F_key_put ([V.int .u8 155], len v6, 4) : Option (List V)).bind fun (v8 : (List V)) =>
    if List.length v8 + List.length (all v6) ≤ 2147483648 then
      some ((v8 ++ all v6, 0))
     else
      none
   else
    (F_key_put ([V.int .u8 153], len v6, 2) : Option (List V)).bind fun (v9 : (List V)) =>
    if List.length v9 + List.length (all v6) ≤ 2147483648 then
      some ((v9 ++ all v6, 0))
     else
      none
noncomputable def fn_key_Image : Fn := ⟨32, [.v (.st rapi_Key)], .pure (.tup [.t (.own 5), .t (.v (.int .i64))]) 1, F_key_Image⟩
theorem t_key_Image : GoodAt Try.prog HH HSP 8 fn_key_Image := goodAt_of (ho := HO) (l := [fn_key_Emit, fn_key_put]) rfl (hl1 (t_key_Emit.up (by decide)) (hl1 (t_key_put.up (by decide)) hl0)) fun x => by kernel_rfl
noncomputable def F_key_Same : Ps [.v (.st rapi_Key), .v (.st rapi_Key)] → Option (Rc.I (.pure (.one (.t (.v .bool))) 2)) := fun (((v0, v1, v2, v3, v4, v5), v6, v7, v8, v9, v10, v11) : ((Int × (Int × (Int × ((List V) × ((List V) × (List Int)))))) × (Int × (Int × (Int × ((List V) × ((List V) × (List Int)))))))) =>
 (F_key_Image (v0, v1, v2, v3, v4, fitI v5 0 32) : Option ((List V) × Int)).bind fun ((v12, v13) : ((List V) × Int)) =>
 (F_key_Image (v6, v7, v8, v9, v10, fitI v11 0 32) : Option ((List V) × Int)).bind fun ((v14, v15) : ((List V) × Int)) =>
  (if (v13 == 0) = true then
     if (v15 == 0) = true then
      (F_bytes_Equal (all v12, all v14) : Option Bool).bind fun (v16 : Bool) =>
      some (v16)
     else
      some (false)
    else
     some (false) : Option Bool).bind fun v17 =>
   some (v17)
noncomputable def fn_key_Same : Fn := ⟨14, [.v (.st rapi_Key), .v (.st rapi_Key)], .pure (.one (.t (.v .bool))) 2, F_key_Same⟩
theorem t_key_Same : GoodAt Try.prog HH HSP 9 fn_key_Same := goodAt_of (ho := HO) (l := [fn_key_Image, fn_bytes_Equal]) rfl (hl1 (t_key_Image.up (by decide)) (hl1 (t_bytes_Equal.up (by decide)) hl0)) fun x => by kernel_rfl
noncomputable def F_affiantref11_More : Ps [.v (.st [.arr .u64 4]), .v (.st [.arr .u64 4])] → Option (Rc.I (.pure (.tup [.t (.v (.st [.arr .u64 4])), .t (.v .bool)]) 2)) := fun ((v0, v1) : ((List Int) × (List Int))) =>
 loopO (σ := ((List Int) × ((List Int) × ((List Int) × (Int × Int))))) (R := ((List Int) × Bool)) (fun (v2, v3, v4, v5, v6) =>
  if decide (v6 < 4) = true then
   if 0 ≤ v6 ∧ v6 < 4 then
    if 0 + Int.toNat v6 * 1 < 4 then
     ([T.p (V.int .u64 (getD v2 0 0)), T.p (V.int .u64 (getD v2 1 0)), T.p (V.int .u64 (getD v2 2 0)), T.p (V.int .u64 (getD v2 3 0))][0 + Int.toNat v6 * 1]?).bind fun v7 =>
     (T.val? v7).bind fun v8 =>
      (V.int? .u64 v8).bind fun v9 =>
       if 0 ≤ v6 ∧ v6 < 4 then
         if 0 + Int.toNat v6 * 1 < 4 then
          ([T.p (V.int .u64 (getD v3 0 0)), T.p (V.int .u64 (getD v3 1 0)), T.p (V.int .u64 (getD v3 2 0)), T.p (V.int .u64 (getD v3 3 0))][0 + Int.toNat v6 * 1]?).bind fun v10 =>
          (T.val? v10).bind fun v11 =>
           (V.int? .u64 v11).bind fun v12 =>
            (if 0 ≤ v6 ∧ v6 < 4 then
               if 0 + Int.toNat v6 * 1 < 4 then
                ([T.p (V.int .u64 (getD v2 0 0)), T.p (V.int .u64 (getD v2 1 0)), T.p (V.int .u64 (getD v2 2 0)), T.p (V.int .u64 (getD v2 3 0))][0 + Int.toNat v6 * 1]?).bind fun v13 =>
                (T.val? v13).bind fun v14 =>
                 (V.int? .u64 v14).bind fun v15 =>
                  if decide (wu64 (v9 + v12) < v15) = false then
                    some (decide (wu64 (wu64 (v9 + v12) + v5) < wu64 (v9 + v12)))
                   else
                    some (true)
               else
                none
              else
               none : Option Bool).bind fun v16 =>
             (if v16 = true then
                some (.inl (1))
               else
                some (.inl (0)) : Option (Int ⊕ (((List Int) × ((List Int) × ((List Int) × (Int × Int)))) ⊕ ((List Int) × Bool)))).bind fun v17 =>
              match v17 with
               | .inl v18 =>
                if 0 ≤ v6 ∧ v6 < 4 then
                 if 0 + Int.toNat v6 * 1 < 4 then
                  if 0 + Int.toNat v6 * 1 < 4 then
                   ((((((elemsS.T.pures (List.take 4 (List.set [T.p (V.int .u64 (getD v4 0 0)), T.p (V.int .u64 (getD v4 1 0)), T.p (V.int .u64 (getD v4 2 0)), T.p (V.int .u64 (getD v4 3 0))] (0 + Int.toNat v6 * 1) (T.p (V.int .u64 (wu64 (wu64 (v9 + v12) + v5))))))).bind fun v19 =>
                        (intsOf .u64 4 v19).bind fun v20 =>
                         some ((v20, List.drop 4 (List.set [T.p (V.int .u64 (getD v4 0 0)), T.p (V.int .u64 (getD v4 1 0)), T.p (V.int .u64 (getD v4 2 0)), T.p (V.int .u64 (getD v4 3 0))] (0 + Int.toNat v6 * 1) (T.p (V.int .u64 (wu64 (wu64 (v9 + v12) + v5))))))) : Option ((List Int) × (List T))).bind fun (v21, v22) =>
                       match v22 with
                        | [] =>
                         some (v21)
                        | v23 :: v24 =>
                         none : Option (List Int)).bind fun v25 =>
                      some ((v25, v18, w64 (v6 + 1))) : Option ((List Int) × (Int × Int))).bind fun (v26, v27, v28) =>
                     some (([getD v3 0 0, getD v3 1 0, getD v3 2 0, getD v3 3 0], v26, v27, v28)) : Option ((List Int) × ((List Int) × (Int × Int)))).bind fun (v29, v30, v31, v32) =>
                    some (([getD v2 0 0, getD v2 1 0, getD v2 2 0, getD v2 3 0], v29, v30, v31, v32)) : Option ((List Int) × ((List Int) × ((List Int) × (Int × Int))))).bind fun (v33, v34, v35, v36, v37) =>
                   some (.inl ((v33, v34, v35, v36, v37)))
                  else
                   none
                 else
                  none
                else
                 none
               | .inr v38 =>
                some (v38)
         else
          none
        else
         none
    else
     none
   else
    none
  else
   some (.inr (([getD [getD v4 0 0, getD v4 1 0, getD v4 2 0, getD v4 3 0] 0 0, getD [getD v4 0 0, getD v4 1 0, getD v4 2 0, getD v4 3 0] 1 0, getD [getD v4 0 0, getD v4 1 0, getD v4 2 0, getD v4 3 0] 2 0, getD [getD v4 0 0, getD v4 1 0, getD v4 2 0, getD v4 3 0] 3 0], v5 == 1)))) (([getD v0 0 0, getD v0 1 0, getD v0 2 0, getD v0 3 0], [getD v1 0 0, getD v1 1 0, getD v1 2 0, getD v1 3 0], [0, 0, 0, 0], 0, 0))
noncomputable def fn_affiantref11_More : Fn := ⟨126, [.v (.st [.arr .u64 4]), .v (.st [.arr .u64 4])], .pure (.tup [.t (.v (.st [.arr .u64 4])), .t (.v .bool)]) 2, F_affiantref11_More⟩
theorem t_affiantref11_More : GoodAt Try.prog HH HSP 1 fn_affiantref11_More := goodAt_of (ho := HO) (l := []) rfl hl0 fun x => by kernel_rfl
noncomputable def F_affiantref11_Prime : Ps [] → Option (Rc.I (.pure (.one (.t (.v (.st [.arr .u64 4])))) 0)) := fun (v0 : Unit) =>
 some ([18446744073709551597, 18446744073709551615, 18446744073709551615, 9223372036854775807])
noncomputable def fn_affiantref11_Prime : Fn := ⟨124, [], .pure (.one (.t (.v (.st [.arr .u64 4])))) 0, F_affiantref11_Prime⟩
theorem t_affiantref11_Prime : GoodAt Try.prog HH HSP 1 fn_affiantref11_Prime := goodAt_of (ho := HO) (l := []) rfl hl0 fun x => by kernel_rfl
noncomputable def F_affiantref11_Less : Ps [.v (.st [.arr .u64 4]), .v (.st [.arr .u64 4])] → Option (Rc.I (.pure (.tup [.t (.v (.st [.arr .u64 4])), .t (.v .bool)]) 2)) := fun ((v0, v1) : ((List Int) × (List Int))) =>
 loopO (σ := ((List Int) × ((List Int) × ((List Int) × (Int × Int))))) (R := ((List Int) × Bool)) (fun (v2, v3, v4, v5, v6) =>
  if decide (v6 < 4) = true then
   if 0 ≤ v6 ∧ v6 < 4 then
    if 0 + Int.toNat v6 * 1 < 4 then
     ([T.p (V.int .u64 (getD v2 0 0)), T.p (V.int .u64 (getD v2 1 0)), T.p (V.int .u64 (getD v2 2 0)), T.p (V.int .u64 (getD v2 3 0))][0 + Int.toNat v6 * 1]?).bind fun v7 =>
     (T.val? v7).bind fun v8 =>
      (V.int? .u64 v8).bind fun v9 =>
       if 0 ≤ v6 ∧ v6 < 4 then
         if 0 + Int.toNat v6 * 1 < 4 then
          ([T.p (V.int .u64 (getD v3 0 0)), T.p (V.int .u64 (getD v3 1 0)), T.p (V.int .u64 (getD v3 2 0)), T.p (V.int .u64 (getD v3 3 0))][0 + Int.toNat v6 * 1]?).bind fun v10 =>
          (T.val? v10).bind fun v11 =>
           (V.int? .u64 v11).bind fun v12 =>
            if 0 ≤ v6 ∧ v6 < 4 then
              if 0 + Int.toNat v6 * 1 < 4 then
               if 0 + Int.toNat v6 * 1 < 4 then
                (if 0 ≤ v6 ∧ v6 < 4 then
                  if 0 + Int.toNat v6 * 1 < 4 then
                   ([T.p (V.int .u64 (getD v2 0 0)), T.p (V.int .u64 (getD v2 1 0)), T.p (V.int .u64 (getD v2 2 0)), T.p (V.int .u64 (getD v2 3 0))][0 + Int.toNat v6 * 1]?).bind fun v13 =>
                   (T.val? v13).bind fun v14 =>
                    (V.int? .u64 v14).bind fun v15 =>
                     if 0 ≤ v6 ∧ v6 < 4 then
                       if 0 + Int.toNat v6 * 1 < 4 then
                        ([T.p (V.int .u64 (getD v3 0 0)), T.p (V.int .u64 (getD v3 1 0)), T.p (V.int .u64 (getD v3 2 0)), T.p (V.int .u64 (getD v3 3 0))][0 + Int.toNat v6 * 1]?).bind fun v16 =>
                        (T.val? v16).bind fun v17 =>
                         (V.int? .u64 v17).bind fun v18 =>
                          if decide (v15 < v18) = false then
                            if 0 ≤ v6 ∧ v6 < 4 then
                             if 0 + Int.toNat v6 * 1 < 4 then
                              ([T.p (V.int .u64 (getD v2 0 0)), T.p (V.int .u64 (getD v2 1 0)), T.p (V.int .u64 (getD v2 2 0)), T.p (V.int .u64 (getD v2 3 0))][0 + Int.toNat v6 * 1]?).bind fun v19 =>
                              (T.val? v19).bind fun v20 =>
                               (V.int? .u64 v20).bind fun v21 =>
                                if 0 ≤ v6 ∧ v6 < 4 then
                                  if 0 + Int.toNat v6 * 1 < 4 then
                                   ([T.p (V.int .u64 (getD v3 0 0)), T.p (V.int .u64 (getD v3 1 0)), T.p (V.int .u64 (getD v3 2 0)), T.p (V.int .u64 (getD v3 3 0))][0 + Int.toNat v6 * 1]?).bind fun v22 =>
                                   (T.val? v22).bind fun v23 =>
                                    (V.int? .u64 v23).bind fun v24 =>
                                     if (v21 == v24) = true then
                                       some (v5 == 1)
                                      else
                                       some (false)
                                  else
                                   none
                                 else
                                  none
                             else
                              none
                            else
                             none
                           else
                            some (true)
                       else
                        none
                      else
                       none
                  else
                   none
                 else
                  none : Option Bool).bind fun v25 =>
                (if v25 = true then
                   some (.inl (1))
                  else
                   some (.inl (0)) : Option (Int ⊕ (((List Int) × ((List Int) × ((List Int) × (Int × Int)))) ⊕ ((List Int) × Bool)))).bind fun v26 =>
                 match v26 with
                  | .inl v27 =>
                   ((((((elemsS.T.pures (List.take 4 (List.set [T.p (V.int .u64 (getD v4 0 0)), T.p (V.int .u64 (getD v4 1 0)), T.p (V.int .u64 (getD v4 2 0)), T.p (V.int .u64 (getD v4 3 0))] (0 + Int.toNat v6 * 1) (T.p (V.int .u64 (wu64 (wu64 (v9 - v12) - v5))))))).bind fun v28 =>
                        (intsOf .u64 4 v28).bind fun v29 =>
                         some ((v29, List.drop 4 (List.set [T.p (V.int .u64 (getD v4 0 0)), T.p (V.int .u64 (getD v4 1 0)), T.p (V.int .u64 (getD v4 2 0)), T.p (V.int .u64 (getD v4 3 0))] (0 + Int.toNat v6 * 1) (T.p (V.int .u64 (wu64 (wu64 (v9 - v12) - v5))))))) : Option ((List Int) × (List T))).bind fun (v30, v31) =>
                       match v31 with
                        | [] =>
                         some (v30)
                        | v32 :: v33 =>
                         none : Option (List Int)).bind fun v34 =>
                      some ((v34, v27, w64 (v6 + 1))) : Option ((List Int) × (Int × Int))).bind fun (v35, v36, v37) =>
                     some (([getD v3 0 0, getD v3 1 0, getD v3 2 0, getD v3 3 0], v35, v36, v37)) : Option ((List Int) × ((List Int) × (Int × Int)))).bind fun (v38, v39, v40, v41) =>
                    some (([getD v2 0 0, getD v2 1 0, getD v2 2 0, getD v2 3 0], v38, v39, v40, v41)) : Option ((List Int) × ((List Int) × ((List Int) × (Int × Int))))).bind fun (v42, v43, v44, v45, v46) =>
                   some (.inl ((v42, v43, v44, v45, v46)))
                  | .inr v47 =>
                   some (v47)
               else
                none
              else
               none
             else
              none
         else
          none
        else
         none
    else
     none
   else
    none
  else
   some (.inr (([getD [getD v4 0 0, getD v4 1 0, getD v4 2 0, getD v4 3 0] 0 0, getD [getD v4 0 0, getD v4 1 0, getD v4 2 0, getD v4 3 0] 1 0, getD [getD v4 0 0, getD v4 1 0, getD v4 2 0, getD v4 3 0] 2 0, getD [getD v4 0 0, getD v4 1 0, getD v4 2 0, getD v4 3 0] 3 0], v5 == 1)))) (([getD v0 0 0, getD v0 1 0, getD v0 2 0, getD v0 3 0], [getD v1 0 0, getD v1 1 0, getD v1 2 0, getD v1 3 0], [0, 0, 0, 0], 0, 0))
noncomputable def fn_affiantref11_Less : Fn := ⟨123, [.v (.st [.arr .u64 4]), .v (.st [.arr .u64 4])], .pure (.tup [.t (.v (.st [.arr .u64 4])), .t (.v .bool)]) 2, F_affiantref11_Less⟩
theorem t_affiantref11_Less : GoodAt Try.prog HH HSP 1 fn_affiantref11_Less := goodAt_of (ho := HO) (l := []) rfl hl0 fun x => by kernel_rfl
noncomputable def F_affiantref11_Below : Ps [.v (.st [.arr .u64 4]), .v (.st [.arr .u64 4])] → Option (Rc.I (.pure (.one (.t (.v (.st [.arr .u64 4])))) 2)) := fun ((v0, v1) : ((List Int) × (List Int))) =>
 loopO (σ := ((List Int) × ((List Int) × (List Int)))) (R := (List Int)) (fun (v2, v3, v4) =>
  (F_affiantref11_Less ([getD [getD v2 0 0, getD v2 1 0, getD v2 2 0, getD v2 3 0] 0 0, getD [getD v2 0 0, getD v2 1 0, getD v2 2 0, getD v2 3 0] 1 0, getD [getD v2 0 0, getD v2 1 0, getD v2 2 0, getD v2 3 0] 2 0, getD [getD v2 0 0, getD v2 1 0, getD v2 2 0, getD v2 3 0] 3 0], [getD [getD v3 0 0, getD v3 1 0, getD v3 2 0, getD v3 3 0] 0 0, getD [getD v3 0 0, getD v3 1 0, getD v3 2 0, getD v3 3 0] 1 0, getD [getD v3 0 0, getD v3 1 0, getD v3 2 0, getD v3 3 0] 2 0, getD [getD v3 0 0, getD v3 1 0, getD v3 2 0, getD v3 3 0] 3 0]) : Option ((List Int) × Bool)).bind fun ((v5, v6) : ((List Int) × Bool)) =>
  if v6 = true then
    some (.inr ([getD [getD v2 0 0, getD v2 1 0, getD v2 2 0, getD v2 3 0] 0 0, getD [getD v2 0 0, getD v2 1 0, getD v2 2 0, getD v2 3 0] 1 0, getD [getD v2 0 0, getD v2 1 0, getD v2 2 0, getD v2 3 0] 2 0, getD [getD v2 0 0, getD v2 1 0, getD v2 2 0, getD v2 3 0] 3 0]))
   else
    some (.inl (([getD [getD v5 0 0, getD v5 1 0, getD v5 2 0, getD v5 3 0] 0 0, getD [getD v5 0 0, getD v5 1 0, getD v5 2 0, getD v5 3 0] 1 0, getD [getD v5 0 0, getD v5 1 0, getD v5 2 0, getD v5 3 0] 2 0, getD [getD v5 0 0, getD v5 1 0, getD v5 2 0, getD v5 3 0] 3 0], [getD v3 0 0, getD v3 1 0, getD v3 2 0, getD v3 3 0], [getD v4 0 0, getD v4 1 0, getD v4 2 0, getD v4 3 0])))) (([getD v0 0 0, getD v0 1 0, getD v0 2 0, getD v0 3 0], [getD v1 0 0, getD v1 1 0, getD v1 2 0, getD v1 3 0], [0, 0, 0, 0]))
noncomputable def fn_affiantref11_Below : Fn := ⟨152, [.v (.st [.arr .u64 4]), .v (.st [.arr .u64 4])], .pure (.one (.t (.v (.st [.arr .u64 4])))) 2, F_affiantref11_Below⟩
theorem t_affiantref11_Below : GoodAt Try.prog HH HSP 2 fn_affiantref11_Below := goodAt_of (ho := HO) (l := [fn_affiantref11_Less]) rfl (hl1 (t_affiantref11_Less.up (by decide)) hl0) fun x => by kernel_rfl
noncomputable def F_affiantref11_Reduce : Ps [.v (.st [.arr .u64 4])] → Option (Rc.I (.pure (.one (.t (.v (.st [.arr .u64 4])))) 1)) := fun (v0 : (List Int)) =>
 (F_affiantref11_Prime PUnit.unit : Option (List Int)).bind fun (v1 : (List Int)) =>
 (F_affiantref11_Below ([getD [getD v0 0 0, getD v0 1 0, getD v0 2 0, getD v0 3 0] 0 0, getD [getD v0 0 0, getD v0 1 0, getD v0 2 0, getD v0 3 0] 1 0, getD [getD v0 0 0, getD v0 1 0, getD v0 2 0, getD v0 3 0] 2 0, getD [getD v0 0 0, getD v0 1 0, getD v0 2 0, getD v0 3 0] 3 0], [getD v1 0 0, getD v1 1 0, getD v1 2 0, getD v1 3 0]) : Option (List Int)).bind fun (v2 : (List Int)) =>
  some ([getD v2 0 0, getD v2 1 0, getD v2 2 0, getD v2 3 0])
noncomputable def fn_affiantref11_Reduce : Fn := ⟨127, [.v (.st [.arr .u64 4])], .pure (.one (.t (.v (.st [.arr .u64 4])))) 1, F_affiantref11_Reduce⟩
theorem t_affiantref11_Reduce : GoodAt Try.prog HH HSP 3 fn_affiantref11_Reduce := goodAt_of (ho := HO) (l := [fn_affiantref11_Prime, fn_affiantref11_Below]) rfl (hl1 (t_affiantref11_Prime.up (by decide)) (hl1 (t_affiantref11_Below.up (by decide)) hl0)) fun x => by kernel_rfl
noncomputable def F_affiantref11_Sub : Ps [.v (.st [.arr .u64 4]), .v (.st [.arr .u64 4])] → Option (Rc.I (.pure (.one (.t (.v (.st [.arr .u64 4])))) 2)) := fun ((v0, v1) : ((List Int) × (List Int))) =>
 (F_affiantref11_Reduce [getD [getD v0 0 0, getD v0 1 0, getD v0 2 0, getD v0 3 0] 0 0, getD [getD v0 0 0, getD v0 1 0, getD v0 2 0, getD v0 3 0] 1 0, getD [getD v0 0 0, getD v0 1 0, getD v0 2 0, getD v0 3 0] 2 0, getD [getD v0 0 0, getD v0 1 0, getD v0 2 0, getD v0 3 0] 3 0] : Option (List Int)).bind fun (v2 : (List Int)) =>
 (F_affiantref11_Reduce [getD [getD v1 0 0, getD v1 1 0, getD v1 2 0, getD v1 3 0] 0 0, getD [getD v1 0 0, getD v1 1 0, getD v1 2 0, getD v1 3 0] 1 0, getD [getD v1 0 0, getD v1 1 0, getD v1 2 0, getD v1 3 0] 2 0, getD [getD v1 0 0, getD v1 1 0, getD v1 2 0, getD v1 3 0] 3 0] : Option (List Int)).bind fun (v3 : (List Int)) =>
  (F_affiantref11_Less ([getD v2 0 0, getD v2 1 0, getD v2 2 0, getD v2 3 0], [getD v3 0 0, getD v3 1 0, getD v3 2 0, getD v3 3 0]) : Option ((List Int) × Bool)).bind fun ((v4, v5) : ((List Int) × Bool)) =>
   (if v5 = true then
      (F_affiantref11_Prime PUnit.unit : Option (List Int)).bind fun (v6 : (List Int)) =>
      (F_affiantref11_More ([getD [getD v4 0 0, getD v4 1 0, getD v4 2 0, getD v4 3 0] 0 0, getD [getD v4 0 0, getD v4 1 0, getD v4 2 0, getD v4 3 0] 1 0, getD [getD v4 0 0, getD v4 1 0, getD v4 2 0, getD v4 3 0] 2 0, getD [getD v4 0 0, getD v4 1 0, getD v4 2 0, getD v4 3 0] 3 0], [getD v6 0 0, getD v6 1 0, getD v6 2 0, getD v6 3 0]) : Option ((List Int) × Bool)).bind fun ((v7, v8) : ((List Int) × Bool)) =>
       some (.inl ([getD v7 0 0, getD v7 1 0, getD v7 2 0, getD v7 3 0]))
     else
      some (.inl ([getD v4 0 0, getD v4 1 0, getD v4 2 0, getD v4 3 0])) : Option ((List Int) ⊕ (List Int))).bind fun v9 =>
    match v9 with
     | .inl v10 =>
      some ([getD [getD v10 0 0, getD v10 1 0, getD v10 2 0, getD v10 3 0] 0 0, getD [getD v10 0 0, getD v10 1 0, getD v10 2 0, getD v10 3 0] 1 0, getD [getD v10 0 0, getD v10 1 0, getD v10 2 0, getD v10 3 0] 2 0, getD [getD v10 0 0, getD v10 1 0, getD v10 2 0, getD v10 3 0] 3 0])
     | .inr v11 =>
      some (v11)
noncomputable def fn_affiantref11_Sub : Fn := ⟨91, [.v (.st [.arr .u64 4]), .v (.st [.arr .u64 4])], .pure (.one (.t (.v (.st [.arr .u64 4])))) 2, F_affiantref11_Sub⟩
theorem t_affiantref11_Sub : GoodAt Try.prog HH HSP 4 fn_affiantref11_Sub := goodAt_of (ho := HO) (l := [fn_affiantref11_Reduce, fn_affiantref11_Less, fn_affiantref11_Prime, fn_affiantref11_More]) rfl (hl1 (t_affiantref11_Reduce.up (by decide)) (hl1 (t_affiantref11_Less.up (by decide)) (hl1 (t_affiantref11_Prime.up (by decide)) (hl1 (t_affiantref11_More.up (by decide)) hl0)))) fun x => by kernel_rfl
noncomputable def F_affiantref13_Zero : Ps [] → Option (Rc.I (.pure (.one (.t (.v (.st rapi_Point)))) 0)) := fun (v0 : Unit) =>
 some (([0, 0, 0, 0], [1, 0, 0, 0]))
noncomputable def fn_affiantref13_Zero : Fn := ⟨96, [], .pure (.one (.t (.v (.st rapi_Point)))) 0, F_affiantref13_Zero⟩
theorem t_affiantref13_Zero : GoodAt Try.prog HH HSP 1 fn_affiantref13_Zero := goodAt_of (ho := HO) (l := []) rfl hl0 fun x => by kernel_rfl
noncomputable def F_affiantref11_Halves : Ps [.v (.st [.arr .u64 4])] → Option (Rc.I (.pure (.one (.t (.v (.st [.arr .u64 8])))) 1)) := fun (v0 : (List Int)) =>
 loopO (σ := ((List Int) × ((List Int) × Int))) (R := (List Int)) (fun (v1, v2, v3) =>
  if decide (v3 < 8) = true then
   if 0 ≤ w64 (Int.tdiv v3 2) ∧ w64 (Int.tdiv v3 2) < 4 then
    if 0 + Int.toNat (w64 (Int.tdiv v3 2)) * 1 < 4 then
     ([T.p (V.int .u64 (getD v1 0 0)), T.p (V.int .u64 (getD v1 1 0)), T.p (V.int .u64 (getD v1 2 0)), T.p (V.int .u64 (getD v1 3 0))][0 + Int.toNat (w64 (Int.tdiv v3 2)) * 1]?).bind fun v4 =>
     (T.val? v4).bind fun v5 =>
      (V.int? .u64 v5).bind fun v6 =>
       if wu64 (w64 (32 * Int.tmod v3 2)) < 0 then
         none
        else
         if 0 ≤ v3 ∧ v3 < 8 then
          if 0 + Int.toNat v3 * 1 < 8 then
           if 0 + Int.toNat v3 * 1 < 8 then
            (((((elemsS.T.pures (List.take 8 (List.set [T.p (V.int .u64 (getD v2 0 0)), T.p (V.int .u64 (getD v2 1 0)), T.p (V.int .u64 (getD v2 2 0)), T.p (V.int .u64 (getD v2 3 0)), T.p (V.int .u64 (getD v2 4 0)), T.p (V.int .u64 (getD v2 5 0)), T.p (V.int .u64 (getD v2 6 0)), T.p (V.int .u64 (getD v2 7 0))] (0 + Int.toNat v3 * 1) (T.p (V.int .u64 (wordAnd .u64 (wordShr .u64 v6 (wu64 (w64 (32 * Int.tmod v3 2)))) 4294967295)))))).bind fun v7 =>
                (intsOf .u64 8 v7).bind fun v8 =>
                 some ((v8, List.drop 8 (List.set [T.p (V.int .u64 (getD v2 0 0)), T.p (V.int .u64 (getD v2 1 0)), T.p (V.int .u64 (getD v2 2 0)), T.p (V.int .u64 (getD v2 3 0)), T.p (V.int .u64 (getD v2 4 0)), T.p (V.int .u64 (getD v2 5 0)), T.p (V.int .u64 (getD v2 6 0)), T.p (V.int .u64 (getD v2 7 0))] (0 + Int.toNat v3 * 1) (T.p (V.int .u64 (wordAnd .u64 (wordShr .u64 v6 (wu64 (w64 (32 * Int.tmod v3 2)))) 4294967295)))))) : Option ((List Int) × (List T))).bind fun (v9, v10) =>
               match v10 with
                | [] =>
                 some (v9)
                | v11 :: v12 =>
                 none : Option (List Int)).bind fun v13 =>
              some ((v13, w64 (v3 + 1))) : Option ((List Int) × Int)).bind fun (v14, v15) =>
             some (([getD v1 0 0, getD v1 1 0, getD v1 2 0, getD v1 3 0], v14, v15)) : Option ((List Int) × ((List Int) × Int))).bind fun (v16, v17, v18) =>
            some (.inl ((v16, v17, v18)))
           else
            none
          else
           none
         else
          none
    else
     none
   else
    none
  else
   some (.inr (fitI (fitI v2 0 8) 0 8))) (([getD v0 0 0, getD v0 1 0, getD v0 2 0, getD v0 3 0], rep 8 0, 0))
noncomputable def fn_affiantref11_Halves : Fn := ⟨151, [.v (.st [.arr .u64 4])], .pure (.one (.t (.v (.st [.arr .u64 8])))) 1, F_affiantref11_Halves⟩
theorem t_affiantref11_Halves : GoodAt Try.prog HH HSP 1 fn_affiantref11_Halves := goodAt_of (ho := HO) (l := []) rfl hl0 fun x => by kernel_rfl
noncomputable def F_affiantref11_Product : Ps [.v (.st [.arr .u64 4]), .v (.st [.arr .u64 4])] → Option (Rc.I (.pure (.one (.t (.v .agg))) 2)) := fun ((v0, v1) : ((List Int) × (List Int))) =>
 (F_affiantref11_Halves [getD [getD v0 0 0, getD v0 1 0, getD v0 2 0, getD v0 3 0] 0 0, getD [getD v0 0 0, getD v0 1 0, getD v0 2 0, getD v0 3 0] 1 0, getD [getD v0 0 0, getD v0 1 0, getD v0 2 0, getD v0 3 0] 2 0, getD [getD v0 0 0, getD v0 1 0, getD v0 2 0, getD v0 3 0] 3 0] : Option (List Int)).bind fun (v2 : (List Int)) =>
 (F_affiantref11_Halves [getD [getD v1 0 0, getD v1 1 0, getD v1 2 0, getD v1 3 0] 0 0, getD [getD v1 0 0, getD v1 1 0, getD v1 2 0, getD v1 3 0] 1 0, getD [getD v1 0 0, getD v1 1 0, getD v1 2 0, getD v1 3 0] 2 0, getD [getD v1 0 0, getD v1 1 0, getD v1 2 0, getD v1 3 0] 3 0] : Option (List Int)).bind fun (v3 : (List Int)) =>
  loopO (σ := ((List Int) × ((List Int) × ((List T) × Int)))) (R := (List V)) (fun (v4, v5, v6, v7) =>
    if decide (v7 < 8) = true then
     loopO (σ := ((List Int) × ((List Int) × ((List T) × (Int × (Int × Int)))))) (R := (((List Int) × ((List Int) × ((List T) × Int))) ⊕ (List V))) (fun (v8, v9, v10, v11, v12, v13) =>
      if decide (v13 < 8) = true then
       if 0 ≤ w64 (v11 + v13) ∧ w64 (v11 + v13) < 16 then
        if 0 + Int.toNat (w64 (v11 + v13)) * 1 < List.length v10 then
         (v10[0 + Int.toNat (w64 (v11 + v13)) * 1]?).bind fun v14 =>
         (T.val? v14).bind fun v15 =>
          (V.int? .u64 v15).bind fun v16 =>
           if 0 ≤ v11 ∧ v11 < 8 then
             if 0 + Int.toNat v11 * 1 < 8 then
              ([T.p (V.int .u64 (getD v8 0 0)), T.p (V.int .u64 (getD v8 1 0)), T.p (V.int .u64 (getD v8 2 0)), T.p (V.int .u64 (getD v8 3 0)), T.p (V.int .u64 (getD v8 4 0)), T.p (V.int .u64 (getD v8 5 0)), T.p (V.int .u64 (getD v8 6 0)), T.p (V.int .u64 (getD v8 7 0))][0 + Int.toNat v11 * 1]?).bind fun v17 =>
              (T.val? v17).bind fun v18 =>
               (V.int? .u64 v18).bind fun v19 =>
                if 0 ≤ v13 ∧ v13 < 8 then
                  if 0 + Int.toNat v13 * 1 < 8 then
                   ([T.p (V.int .u64 (getD v9 0 0)), T.p (V.int .u64 (getD v9 1 0)), T.p (V.int .u64 (getD v9 2 0)), T.p (V.int .u64 (getD v9 3 0)), T.p (V.int .u64 (getD v9 4 0)), T.p (V.int .u64 (getD v9 5 0)), T.p (V.int .u64 (getD v9 6 0)), T.p (V.int .u64 (getD v9 7 0))][0 + Int.toNat v13 * 1]?).bind fun v20 =>
                   (T.val? v20).bind fun v21 =>
                    (V.int? .u64 v21).bind fun v22 =>
                     if 0 ≤ w64 (v11 + v13) ∧ w64 (v11 + v13) < 16 then
                       if 0 + Int.toNat (w64 (v11 + v13)) * 1 < List.length v10 then
                        if 0 + Int.toNat (w64 (v11 + v13)) * 1 < List.length v10 then
                         some (.inl ((fitI v8 0 8, fitI v9 0 8, List.set v10 (0 + Int.toNat (w64 (v11 + v13)) * 1) (T.p (V.int .u64 (wordAnd .u64 (wu64 (wu64 (v12 + v16) + wu64 (v19 * v22))) 4294967295))), v11, wordShr .u64 (wu64 (wu64 (v12 + v16) + wu64 (v19 * v22))) 32, w64 (v13 + 1))))
                        else
                         none
                       else
                        none
                      else
                       none
                  else
                   none
                 else
                  none
             else
              none
            else
             none
        else
         none
       else
        none
      else
       (if 0 ≤ w64 (v11 + 8) ∧ w64 (v11 + 8) < 16 then
         if 0 + Int.toNat (w64 (v11 + 8)) * 1 < List.length v10 then
          if 0 + Int.toNat (w64 (v11 + 8)) * 1 < List.length v10 then
           some (.inl ((fitI v8 0 8, fitI v9 0 8, List.set v10 (0 + Int.toNat (w64 (v11 + 8)) * 1) (T.p (V.int .u64 v12)), w64 (v11 + 1))))
          else
           none
         else
          none
        else
         none : Option (((List Int) × ((List Int) × ((List T) × Int))) ⊕ (List V))).bind fun v23 =>
       some (.inr (v23))) ((fitI v4 0 8, fitI v5 0 8, v6, v7, 0, 0))
    else
     (if 16 ≤ List.length v6 ∧ idN 0 < 16 then
       (elemsS.T.pures (List.take 16 (List.drop 0 v6))).bind fun v24 =>
       if List.length v24 = 16 ∧ List.length (rep 16 (T.p (V.int .u64 0))) = 16 then
         (elemsS.T.pures (List.map T.p v24)).bind fun v25 =>
         if 16 = List.length v25 ∧ idN 0 < 16 then
           if V.stabL v25 = true then
            some (v25)
           else
            none
          else
           none
        else
         none
      else
       none : Option (List V)).bind fun v26 =>
     some (.inr (v26))) ((fitI v2 0 8, fitI v3 0 8, List.map T.p (rep 16 (V.int .u64 0)), 0))
noncomputable def fn_affiantref11_Product : Fn := ⟨125, [.v (.st [.arr .u64 4]), .v (.st [.arr .u64 4])], .pure (.one (.t (.v .agg))) 2, F_affiantref11_Product⟩
theorem t_affiantref11_Product : GoodAt Try.prog HH HSP 2 fn_affiantref11_Product := goodAt_of (ho := HO) (l := [fn_affiantref11_Halves]) rfl (hl1 (t_affiantref11_Halves.up (by decide)) hl0) fun x => by kernel_rfl
noncomputable def F_affiantref11_Mul : Ps [.v (.st [.arr .u64 4]), .v (.st [.arr .u64 4])] → Option (Rc.I (.pure (.one (.t (.v (.st [.arr .u64 4])))) 2)) := fun ((v0, v1) : ((List Int) × (List Int))) =>
 (F_affiantref11_Product ([getD [getD v0 0 0, getD v0 1 0, getD v0 2 0, getD v0 3 0] 0 0, getD [getD v0 0 0, getD v0 1 0, getD v0 2 0, getD v0 3 0] 1 0, getD [getD v0 0 0, getD v0 1 0, getD v0 2 0, getD v0 3 0] 2 0, getD [getD v0 0 0, getD v0 1 0, getD v0 2 0, getD v0 3 0] 3 0], [getD [getD v1 0 0, getD v1 1 0, getD v1 2 0, getD v1 3 0] 0 0, getD [getD v1 0 0, getD v1 1 0, getD v1 2 0, getD v1 3 0] 1 0, getD [getD v1 0 0, getD v1 1 0, getD v1 2 0, getD v1 3 0] 2 0, getD [getD v1 0 0, getD v1 1 0, getD v1 2 0, getD v1 3 0] 3 0]) : Option (List V)).bind fun (v2 : (List V)) =>
 if List.length v2 = 16 ∧ List.length (rep 16 (T.p (V.int .u64 0))) = 16 then
   loopO (σ := ((List T) × ((List Int) × (Int × Int)))) (R := (List Int)) (fun (v3, v4, v5, v6) =>
    if decide (v6 < 8) = true then
     if 0 ≤ v6 ∧ v6 < 16 then
      if 0 + Int.toNat v6 * 1 < List.length v3 then
       (v3[0 + Int.toNat v6 * 1]?).bind fun v7 =>
       (T.val? v7).bind fun v8 =>
        (V.int? .u64 v8).bind fun v9 =>
         if 0 ≤ w64 (8 + v6) ∧ w64 (8 + v6) < 16 then
           if 0 + Int.toNat (w64 (8 + v6)) * 1 < List.length v3 then
            (v3[0 + Int.toNat (w64 (8 + v6)) * 1]?).bind fun v10 =>
            (T.val? v10).bind fun v11 =>
             (V.int? .u64 v11).bind fun v12 =>
              if 0 ≤ v6 ∧ v6 < 8 then
                if 0 + Int.toNat v6 * 1 < 8 then
                 if 0 + Int.toNat v6 * 1 < 8 then
                  (((((elemsS.T.pures (List.take 8 (List.set [T.p (V.int .u64 (getD v4 0 0)), T.p (V.int .u64 (getD v4 1 0)), T.p (V.int .u64 (getD v4 2 0)), T.p (V.int .u64 (getD v4 3 0)), T.p (V.int .u64 (getD v4 4 0)), T.p (V.int .u64 (getD v4 5 0)), T.p (V.int .u64 (getD v4 6 0)), T.p (V.int .u64 (getD v4 7 0))] (0 + Int.toNat v6 * 1) (T.p (V.int .u64 (wordAnd .u64 (wu64 (wu64 (v5 + v9) + wu64 (38 * v12))) 4294967295)))))).bind fun v13 =>
                      (intsOf .u64 8 v13).bind fun v14 =>
                       some ((v14, List.drop 8 (List.set [T.p (V.int .u64 (getD v4 0 0)), T.p (V.int .u64 (getD v4 1 0)), T.p (V.int .u64 (getD v4 2 0)), T.p (V.int .u64 (getD v4 3 0)), T.p (V.int .u64 (getD v4 4 0)), T.p (V.int .u64 (getD v4 5 0)), T.p (V.int .u64 (getD v4 6 0)), T.p (V.int .u64 (getD v4 7 0))] (0 + Int.toNat v6 * 1) (T.p (V.int .u64 (wordAnd .u64 (wu64 (wu64 (v5 + v9) + wu64 (38 * v12))) 4294967295)))))) : Option ((List Int) × (List T))).bind fun (v15, v16) =>
                     match v16 with
                      | [] =>
                       some (v15)
                      | v17 :: v18 =>
                       none : Option (List Int)).bind fun v19 =>
                    some ((v19, wordShr .u64 (wu64 (wu64 (v5 + v9) + wu64 (38 * v12))) 32, w64 (v6 + 1))) : Option ((List Int) × (Int × Int))).bind fun (v20, v21, v22) =>
                   some ((v3, v20, v21, v22)) : Option ((List T) × ((List Int) × (Int × Int)))).bind fun (v23, v24, v25, v26) =>
                  some (.inl ((v23, v24, v25, v26)))
                 else
                  none
                else
                 none
               else
                none
           else
            none
          else
           none
      else
       none
     else
      none
    else
     (loopO (σ := ((List Int) × ((List Int) × Int))) (R := (List Int)) (fun (v27, v28, v29) =>
       if decide (v29 < 4) = true then
        if 0 ≤ w64 (2 * v29) ∧ w64 (2 * v29) < 8 then
         if 0 + Int.toNat (w64 (2 * v29)) * 1 < 8 then
          ([T.p (V.int .u64 (getD v27 0 0)), T.p (V.int .u64 (getD v27 1 0)), T.p (V.int .u64 (getD v27 2 0)), T.p (V.int .u64 (getD v27 3 0)), T.p (V.int .u64 (getD v27 4 0)), T.p (V.int .u64 (getD v27 5 0)), T.p (V.int .u64 (getD v27 6 0)), T.p (V.int .u64 (getD v27 7 0))][0 + Int.toNat (w64 (2 * v29)) * 1]?).bind fun v30 =>
          (T.val? v30).bind fun v31 =>
           (V.int? .u64 v31).bind fun v32 =>
            if 0 ≤ w64 (w64 (2 * v29) + 1) ∧ w64 (w64 (2 * v29) + 1) < 8 then
              if 0 + Int.toNat (w64 (w64 (2 * v29) + 1)) * 1 < 8 then
               ([T.p (V.int .u64 (getD v27 0 0)), T.p (V.int .u64 (getD v27 1 0)), T.p (V.int .u64 (getD v27 2 0)), T.p (V.int .u64 (getD v27 3 0)), T.p (V.int .u64 (getD v27 4 0)), T.p (V.int .u64 (getD v27 5 0)), T.p (V.int .u64 (getD v27 6 0)), T.p (V.int .u64 (getD v27 7 0))][0 + Int.toNat (w64 (w64 (2 * v29) + 1)) * 1]?).bind fun v33 =>
               (T.val? v33).bind fun v34 =>
                (V.int? .u64 v34).bind fun v35 =>
                 if 0 ≤ v29 ∧ v29 < 4 then
                   if 0 + Int.toNat v29 * 1 < 4 then
                    if 0 + Int.toNat v29 * 1 < 4 then
                     (((((elemsS.T.pures (List.take 4 (List.set [T.p (V.int .u64 (getD v28 0 0)), T.p (V.int .u64 (getD v28 1 0)), T.p (V.int .u64 (getD v28 2 0)), T.p (V.int .u64 (getD v28 3 0))] (0 + Int.toNat v29 * 1) (T.p (V.int .u64 (wu64 (v32 + wordShl .u64 v35 32))))))).bind fun v36 =>
                         (intsOf .u64 4 v36).bind fun v37 =>
                          some ((v37, List.drop 4 (List.set [T.p (V.int .u64 (getD v28 0 0)), T.p (V.int .u64 (getD v28 1 0)), T.p (V.int .u64 (getD v28 2 0)), T.p (V.int .u64 (getD v28 3 0))] (0 + Int.toNat v29 * 1) (T.p (V.int .u64 (wu64 (v32 + wordShl .u64 v35 32))))))) : Option ((List Int) × (List T))).bind fun (v38, v39) =>
                        match v39 with
                         | [] =>
                          some (v38)
                         | v40 :: v41 =>
                          none : Option (List Int)).bind fun v42 =>
                       some ((v42, w64 (v29 + 1))) : Option ((List Int) × Int)).bind fun (v43, v44) =>
                      some ((fitI v27 0 8, v43, v44)) : Option ((List Int) × ((List Int) × Int))).bind fun (v45, v46, v47) =>
                     some (.inl ((v45, v46, v47)))
                    else
                     none
                   else
                    none
                  else
                   none
              else
               none
             else
              none
         else
          none
        else
         none
       else
        ((F_affiantref11_More ([getD [getD v28 0 0, getD v28 1 0, getD v28 2 0, getD v28 3 0] 0 0, getD [getD v28 0 0, getD v28 1 0, getD v28 2 0, getD v28 3 0] 1 0, getD [getD v28 0 0, getD v28 1 0, getD v28 2 0, getD v28 3 0] 2 0, getD [getD v28 0 0, getD v28 1 0, getD v28 2 0, getD v28 3 0] 3 0], [wu64 (38 * v5), 0, 0, 0]) : Option ((List Int) × Bool)).bind fun ((v48, v49) : ((List Int) × Bool)) =>
         (if v49 = true then
            (F_affiantref11_More ([getD [getD v48 0 0, getD v48 1 0, getD v48 2 0, getD v48 3 0] 0 0, getD [getD v48 0 0, getD v48 1 0, getD v48 2 0, getD v48 3 0] 1 0, getD [getD v48 0 0, getD v48 1 0, getD v48 2 0, getD v48 3 0] 2 0, getD [getD v48 0 0, getD v48 1 0, getD v48 2 0, getD v48 3 0] 3 0], [38, 0, 0, 0]) : Option ((List Int) × Bool)).bind fun ((v50, v51) : ((List Int) × Bool)) =>
            some (.inl ([getD v50 0 0, getD v50 1 0, getD v50 2 0, getD v50 3 0]))
           else
            some (.inl ([getD v48 0 0, getD v48 1 0, getD v48 2 0, getD v48 3 0])) : Option ((List Int) ⊕ (List Int))).bind fun v52 =>
          match v52 with
           | .inl v53 =>
            (F_affiantref11_Reduce [getD [getD v53 0 0, getD v53 1 0, getD v53 2 0, getD v53 3 0] 0 0, getD [getD v53 0 0, getD v53 1 0, getD v53 2 0, getD v53 3 0] 1 0, getD [getD v53 0 0, getD v53 1 0, getD v53 2 0, getD v53 3 0] 2 0, getD [getD v53 0 0, getD v53 1 0, getD v53 2 0, getD v53 3 0] 3 0] : Option (List Int)).bind fun (v54 : (List Int)) =>
            some ([getD v54 0 0, getD v54 1 0, getD v54 2 0, getD v54 3 0])
           | .inr v55 =>
            some (v55) : Option (List Int)).bind fun v56 =>
        some (.inr (v56))) ((fitI v4 0 8, [0, 0, 0, 0], 0)) : Option (List Int)).bind fun v57 =>
     some (.inr (v57))) ((List.map T.p v2, rep 8 0, 0, 0))
  else
   none
noncomputable def fn_affiantref11_Mul : Fn := ⟨90, [.v (.st [.arr .u64 4]), .v (.st [.arr .u64 4])], .pure (.one (.t (.v (.st [.arr .u64 4])))) 2, F_affiantref11_Mul⟩
theorem t_affiantref11_Mul : GoodAt Try.prog HH HSP 4 fn_affiantref11_Mul := goodAt_of (ho := HO) (l := [fn_affiantref11_Product, fn_affiantref11_More, fn_affiantref11_Reduce]) rfl (hl1 (t_affiantref11_Product.up (by decide)) (hl1 (t_affiantref11_More.up (by decide)) (hl1 (t_affiantref11_Reduce.up (by decide)) hl0))) fun x => by kernel_rfl
noncomputable def F_affiantref11_Pow : Ps [.v (.st [.arr .u64 4]), .v (.st [.arr .u64 4])] → Option (Rc.I (.pure (.one (.t (.v (.st [.arr .u64 4])))) 2)) := fun ((v0, v1) : ((List Int) × (List Int))) =>
 loopO (σ := ((List Int) × ((List Int) × ((List Int) × Int)))) (R := (List Int)) (fun (v2, v3, v4, v5) =>
  if decide (v5 ≥ 0) = true then
   (F_affiantref11_Mul ([getD [getD v4 0 0, getD v4 1 0, getD v4 2 0, getD v4 3 0] 0 0, getD [getD v4 0 0, getD v4 1 0, getD v4 2 0, getD v4 3 0] 1 0, getD [getD v4 0 0, getD v4 1 0, getD v4 2 0, getD v4 3 0] 2 0, getD [getD v4 0 0, getD v4 1 0, getD v4 2 0, getD v4 3 0] 3 0], [getD [getD v4 0 0, getD v4 1 0, getD v4 2 0, getD v4 3 0] 0 0, getD [getD v4 0 0, getD v4 1 0, getD v4 2 0, getD v4 3 0] 1 0, getD [getD v4 0 0, getD v4 1 0, getD v4 2 0, getD v4 3 0] 2 0, getD [getD v4 0 0, getD v4 1 0, getD v4 2 0, getD v4 3 0] 3 0]) : Option (List Int)).bind fun (v6 : (List Int)) =>
   if 0 ≤ w64 (Int.tdiv v5 64) ∧ w64 (Int.tdiv v5 64) < 4 then
     if 0 + Int.toNat (w64 (Int.tdiv v5 64)) * 1 < 4 then
      ([T.p (V.int .u64 (getD v3 0 0)), T.p (V.int .u64 (getD v3 1 0)), T.p (V.int .u64 (getD v3 2 0)), T.p (V.int .u64 (getD v3 3 0))][0 + Int.toNat (w64 (Int.tdiv v5 64)) * 1]?).bind fun v7 =>
      (T.val? v7).bind fun v8 =>
       (V.int? .u64 v8).bind fun v9 =>
        if wu64 (Int.tmod v5 64) < 0 then
          none
         else
          (if (wordAnd .u64 (wordShr .u64 v9 (wu64 (Int.tmod v5 64))) 1 == 1) = true then
            (F_affiantref11_Mul ([getD [getD v6 0 0, getD v6 1 0, getD v6 2 0, getD v6 3 0] 0 0, getD [getD v6 0 0, getD v6 1 0, getD v6 2 0, getD v6 3 0] 1 0, getD [getD v6 0 0, getD v6 1 0, getD v6 2 0, getD v6 3 0] 2 0, getD [getD v6 0 0, getD v6 1 0, getD v6 2 0, getD v6 3 0] 3 0], [getD [getD v2 0 0, getD v2 1 0, getD v2 2 0, getD v2 3 0] 0 0, getD [getD v2 0 0, getD v2 1 0, getD v2 2 0, getD v2 3 0] 1 0, getD [getD v2 0 0, getD v2 1 0, getD v2 2 0, getD v2 3 0] 2 0, getD [getD v2 0 0, getD v2 1 0, getD v2 2 0, getD v2 3 0] 3 0]) : Option (List Int)).bind fun (v10 : (List Int)) =>
            some (.inl (([getD v2 0 0, getD v2 1 0, getD v2 2 0, getD v2 3 0], [getD v10 0 0, getD v10 1 0, getD v10 2 0, getD v10 3 0])))
           else
            some (.inl (([getD v2 0 0, getD v2 1 0, getD v2 2 0, getD v2 3 0], [getD v6 0 0, getD v6 1 0, getD v6 2 0, getD v6 3 0]))) : Option (((List Int) × (List Int)) ⊕ (((List Int) × ((List Int) × ((List Int) × Int))) ⊕ (List Int)))).bind fun v11 =>
          match v11 with
           | .inl (v12, v13) =>
            some (.inl (([getD v12 0 0, getD v12 1 0, getD v12 2 0, getD v12 3 0], [getD v3 0 0, getD v3 1 0, getD v3 2 0, getD v3 3 0], [getD v13 0 0, getD v13 1 0, getD v13 2 0, getD v13 3 0], w64 (v5 - 1))))
           | .inr v14 =>
            some (v14)
     else
      none
    else
     none
  else
   some (.inr ([getD [getD v4 0 0, getD v4 1 0, getD v4 2 0, getD v4 3 0] 0 0, getD [getD v4 0 0, getD v4 1 0, getD v4 2 0, getD v4 3 0] 1 0, getD [getD v4 0 0, getD v4 1 0, getD v4 2 0, getD v4 3 0] 2 0, getD [getD v4 0 0, getD v4 1 0, getD v4 2 0, getD v4 3 0] 3 0]))) (([getD v0 0 0, getD v0 1 0, getD v0 2 0, getD v0 3 0], [getD v1 0 0, getD v1 1 0, getD v1 2 0, getD v1 3 0], [1, 0, 0, 0], 255))
noncomputable def fn_affiantref11_Pow : Fn := ⟨128, [.v (.st [.arr .u64 4]), .v (.st [.arr .u64 4])], .pure (.one (.t (.v (.st [.arr .u64 4])))) 2, F_affiantref11_Pow⟩
theorem t_affiantref11_Pow : GoodAt Try.prog HH HSP 5 fn_affiantref11_Pow := goodAt_of (ho := HO) (l := [fn_affiantref11_Mul]) rfl (hl1 (t_affiantref11_Mul.up (by decide)) hl0) fun x => by kernel_rfl
noncomputable def F_affiantref11_Root : Ps [.v (.st [.arr .u64 4])] → Option (Rc.I (.pure (.tup [.t (.v (.st [.arr .u64 4])), .t (.v .bool)]) 1)) := fun (v0 : (List Int)) =>
 (F_affiantref11_Pow ([getD [getD v0 0 0, getD v0 1 0, getD v0 2 0, getD v0 3 0] 0 0, getD [getD v0 0 0, getD v0 1 0, getD v0 2 0, getD v0 3 0] 1 0, getD [getD v0 0 0, getD v0 1 0, getD v0 2 0, getD v0 3 0] 2 0, getD [getD v0 0 0, getD v0 1 0, getD v0 2 0, getD v0 3 0] 3 0], [18446744073709551614, 18446744073709551615, 18446744073709551615, 1152921504606846975]) : Option (List Int)).bind fun (v1 : (List Int)) =>
 (F_affiantref11_Mul ([getD [getD v1 0 0, getD v1 1 0, getD v1 2 0, getD v1 3 0] 0 0, getD [getD v1 0 0, getD v1 1 0, getD v1 2 0, getD v1 3 0] 1 0, getD [getD v1 0 0, getD v1 1 0, getD v1 2 0, getD v1 3 0] 2 0, getD [getD v1 0 0, getD v1 1 0, getD v1 2 0, getD v1 3 0] 3 0], [getD [getD v1 0 0, getD v1 1 0, getD v1 2 0, getD v1 3 0] 0 0, getD [getD v1 0 0, getD v1 1 0, getD v1 2 0, getD v1 3 0] 1 0, getD [getD v1 0 0, getD v1 1 0, getD v1 2 0, getD v1 3 0] 2 0, getD [getD v1 0 0, getD v1 1 0, getD v1 2 0, getD v1 3 0] 3 0]) : Option (List Int)).bind fun (v2 : (List Int)) =>
  (F_affiantref11_Reduce [getD [getD v0 0 0, getD v0 1 0, getD v0 2 0, getD v0 3 0] 0 0, getD [getD v0 0 0, getD v0 1 0, getD v0 2 0, getD v0 3 0] 1 0, getD [getD v0 0 0, getD v0 1 0, getD v0 2 0, getD v0 3 0] 2 0, getD [getD v0 0 0, getD v0 1 0, getD v0 2 0, getD v0 3 0] 3 0] : Option (List Int)).bind fun (v3 : (List Int)) =>
   (if (![getD v2 0 0, getD v2 1 0, getD v2 2 0, getD v2 3 0] == [getD v3 0 0, getD v3 1 0, getD v3 2 0, getD v3 3 0]) = true then
      (F_affiantref11_Pow ([2, 0, 0, 0], [18446744073709551611, 18446744073709551615, 18446744073709551615, 2305843009213693951]) : Option (List Int)).bind fun (v4 : (List Int)) =>
      (F_affiantref11_Mul ([getD [getD v1 0 0, getD v1 1 0, getD v1 2 0, getD v1 3 0] 0 0, getD [getD v1 0 0, getD v1 1 0, getD v1 2 0, getD v1 3 0] 1 0, getD [getD v1 0 0, getD v1 1 0, getD v1 2 0, getD v1 3 0] 2 0, getD [getD v1 0 0, getD v1 1 0, getD v1 2 0, getD v1 3 0] 3 0], [getD v4 0 0, getD v4 1 0, getD v4 2 0, getD v4 3 0]) : Option (List Int)).bind fun (v5 : (List Int)) =>
       some (.inl ([getD v5 0 0, getD v5 1 0, getD v5 2 0, getD v5 3 0]))
     else
      some (.inl ([getD v1 0 0, getD v1 1 0, getD v1 2 0, getD v1 3 0])) : Option ((List Int) ⊕ ((List Int) × Bool))).bind fun v6 =>
    match v6 with
     | .inl v7 =>
      (F_affiantref11_Mul ([getD [getD v7 0 0, getD v7 1 0, getD v7 2 0, getD v7 3 0] 0 0, getD [getD v7 0 0, getD v7 1 0, getD v7 2 0, getD v7 3 0] 1 0, getD [getD v7 0 0, getD v7 1 0, getD v7 2 0, getD v7 3 0] 2 0, getD [getD v7 0 0, getD v7 1 0, getD v7 2 0, getD v7 3 0] 3 0], [getD [getD v7 0 0, getD v7 1 0, getD v7 2 0, getD v7 3 0] 0 0, getD [getD v7 0 0, getD v7 1 0, getD v7 2 0, getD v7 3 0] 1 0, getD [getD v7 0 0, getD v7 1 0, getD v7 2 0, getD v7 3 0] 2 0, getD [getD v7 0 0, getD v7 1 0, getD v7 2 0, getD v7 3 0] 3 0]) : Option (List Int)).bind fun (v8 : (List Int)) =>
      (F_affiantref11_Reduce [getD [getD v0 0 0, getD v0 1 0, getD v0 2 0, getD v0 3 0] 0 0, getD [getD v0 0 0, getD v0 1 0, getD v0 2 0, getD v0 3 0] 1 0, getD [getD v0 0 0, getD v0 1 0, getD v0 2 0, getD v0 3 0] 2 0, getD [getD v0 0 0, getD v0 1 0, getD v0 2 0, getD v0 3 0] 3 0] : Option (List Int)).bind fun (v9 : (List Int)) =>
       if (![getD v8 0 0, getD v8 1 0, getD v8 2 0, getD v8 3 0] == [getD v9 0 0, getD v9 1 0, getD v9 2 0, getD v9 3 0]) = true then
         some (([0, 0, 0, 0], false))
        else
         (if (Int.tmod (getD v7 0 0) 2 == 1) = true then
           (F_affiantref11_Sub ([0, 0, 0, 0], [getD [getD v7 0 0, getD v7 1 0, getD v7 2 0, getD v7 3 0] 0 0, getD [getD v7 0 0, getD v7 1 0, getD v7 2 0, getD v7 3 0] 1 0, getD [getD v7 0 0, getD v7 1 0, getD v7 2 0, getD v7 3 0] 2 0, getD [getD v7 0 0, getD v7 1 0, getD v7 2 0, getD v7 3 0] 3 0]) : Option (List Int)).bind fun (v10 : (List Int)) =>
           some (.inl ([getD v10 0 0, getD v10 1 0, getD v10 2 0, getD v10 3 0]))
          else
           some (.inl ([getD v7 0 0, getD v7 1 0, getD v7 2 0, getD v7 3 0])) : Option ((List Int) ⊕ ((List Int) × Bool))).bind fun v11 =>
         match v11 with
          | .inl v12 =>
           some (([getD [getD v12 0 0, getD v12 1 0, getD v12 2 0, getD v12 3 0] 0 0, getD [getD v12 0 0, getD v12 1 0, getD v12 2 0, getD v12 3 0] 1 0, getD [getD v12 0 0, getD v12 1 0, getD v12 2 0, getD v12 3 0] 2 0, getD [getD v12 0 0, getD v12 1 0, getD v12 2 0, getD v12 3 0] 3 0], true))
          | .inr (v13, v14) =>
           some ((v13, v14))
     | .inr (v15, v16) =>
      some ((v15, v16))
noncomputable def fn_affiantref11_Root : Fn := ⟨94, [.v (.st [.arr .u64 4])], .pure (.tup [.t (.v (.st [.arr .u64 4])), .t (.v .bool)]) 1, F_affiantref11_Root⟩
theorem t_affiantref11_Root : GoodAt Try.prog HH HSP 6 fn_affiantref11_Root := goodAt_of (ho := HO) (l := [fn_affiantref11_Pow, fn_affiantref11_Mul, fn_affiantref11_Reduce, fn_affiantref11_Sub]) rfl (hl1 (t_affiantref11_Pow.up (by decide)) (hl1 (t_affiantref11_Mul.up (by decide)) (hl1 (t_affiantref11_Reduce.up (by decide)) (hl1 (t_affiantref11_Sub.up (by decide)) hl0)))) fun x => by kernel_rfl
noncomputable def F_affiantref11_Inv : Ps [.v (.st [.arr .u64 4])] → Option (Rc.I (.pure (.one (.t (.v (.st [.arr .u64 4])))) 1)) := fun (v0 : (List Int)) =>
 (F_affiantref11_Prime PUnit.unit : Option (List Int)).bind fun (v1 : (List Int)) =>
 (F_affiantref11_Less ([getD v1 0 0, getD v1 1 0, getD v1 2 0, getD v1 3 0], [2, 0, 0, 0]) : Option ((List Int) × Bool)).bind fun ((v2, v3) : ((List Int) × Bool)) =>
  (F_affiantref11_Pow ([getD [getD v0 0 0, getD v0 1 0, getD v0 2 0, getD v0 3 0] 0 0, getD [getD v0 0 0, getD v0 1 0, getD v0 2 0, getD v0 3 0] 1 0, getD [getD v0 0 0, getD v0 1 0, getD v0 2 0, getD v0 3 0] 2 0, getD [getD v0 0 0, getD v0 1 0, getD v0 2 0, getD v0 3 0] 3 0], [getD [getD v2 0 0, getD v2 1 0, getD v2 2 0, getD v2 3 0] 0 0, getD [getD v2 0 0, getD v2 1 0, getD v2 2 0, getD v2 3 0] 1 0, getD [getD v2 0 0, getD v2 1 0, getD v2 2 0, getD v2 3 0] 2 0, getD [getD v2 0 0, getD v2 1 0, getD v2 2 0, getD v2 3 0] 3 0]) : Option (List Int)).bind fun (v4 : (List Int)) =>
   some ([getD v4 0 0, getD v4 1 0, getD v4 2 0, getD v4 3 0])
noncomputable def fn_affiantref11_Inv : Fn := ⟨95, [.v (.st [.arr .u64 4])], .pure (.one (.t (.v (.st [.arr .u64 4])))) 1, F_affiantref11_Inv⟩
theorem t_affiantref11_Inv : GoodAt Try.prog HH HSP 6 fn_affiantref11_Inv := goodAt_of (ho := HO) (l := [fn_affiantref11_Prime, fn_affiantref11_Less, fn_affiantref11_Pow]) rfl (hl1 (t_affiantref11_Prime.up (by decide)) (hl1 (t_affiantref11_Less.up (by decide)) (hl1 (t_affiantref11_Pow.up (by decide)) hl0))) fun x => by kernel_rfl
noncomputable def F_affiantref11_Add : Ps [.v (.st [.arr .u64 4]), .v (.st [.arr .u64 4])] → Option (Rc.I (.pure (.one (.t (.v (.st [.arr .u64 4])))) 2)) := fun ((v0, v1) : ((List Int) × (List Int))) =>
 (F_affiantref11_Reduce [getD [getD v0 0 0, getD v0 1 0, getD v0 2 0, getD v0 3 0] 0 0, getD [getD v0 0 0, getD v0 1 0, getD v0 2 0, getD v0 3 0] 1 0, getD [getD v0 0 0, getD v0 1 0, getD v0 2 0, getD v0 3 0] 2 0, getD [getD v0 0 0, getD v0 1 0, getD v0 2 0, getD v0 3 0] 3 0] : Option (List Int)).bind fun (v2 : (List Int)) =>
 (F_affiantref11_Reduce [getD [getD v1 0 0, getD v1 1 0, getD v1 2 0, getD v1 3 0] 0 0, getD [getD v1 0 0, getD v1 1 0, getD v1 2 0, getD v1 3 0] 1 0, getD [getD v1 0 0, getD v1 1 0, getD v1 2 0, getD v1 3 0] 2 0, getD [getD v1 0 0, getD v1 1 0, getD v1 2 0, getD v1 3 0] 3 0] : Option (List Int)).bind fun (v3 : (List Int)) =>
  (F_affiantref11_More ([getD v2 0 0, getD v2 1 0, getD v2 2 0, getD v2 3 0], [getD v3 0 0, getD v3 1 0, getD v3 2 0, getD v3 3 0]) : Option ((List Int) × Bool)).bind fun ((v4, v5) : ((List Int) × Bool)) =>
   (F_affiantref11_Reduce [getD [getD v4 0 0, getD v4 1 0, getD v4 2 0, getD v4 3 0] 0 0, getD [getD v4 0 0, getD v4 1 0, getD v4 2 0, getD v4 3 0] 1 0, getD [getD v4 0 0, getD v4 1 0, getD v4 2 0, getD v4 3 0] 2 0, getD [getD v4 0 0, getD v4 1 0, getD v4 2 0, getD v4 3 0] 3 0] : Option (List Int)).bind fun (v6 : (List Int)) =>
    some ([getD v6 0 0, getD v6 1 0, getD v6 2 0, getD v6 3 0])
noncomputable def fn_affiantref11_Add : Fn := ⟨92, [.v (.st [.arr .u64 4]), .v (.st [.arr .u64 4])], .pure (.one (.t (.v (.st [.arr .u64 4])))) 2, F_affiantref11_Add⟩
theorem t_affiantref11_Add : GoodAt Try.prog HH HSP 4 fn_affiantref11_Add := goodAt_of (ho := HO) (l := [fn_affiantref11_Reduce, fn_affiantref11_More]) rfl (hl1 (t_affiantref11_Reduce.up (by decide)) (hl1 (t_affiantref11_More.up (by decide)) hl0)) fun x => by kernel_rfl
noncomputable def F_affiantref13_D : Ps [] → Option (Rc.I (.pure (.one (.t (.v (.st [.arr .u64 4])))) 0)) := fun (v0 : Unit) =>
 some ([8496970652267935907, 31536524315187371, 10144147576115030168, 5909686906226998899])
noncomputable def fn_affiantref13_D : Fn := ⟨93, [], .pure (.one (.t (.v (.st [.arr .u64 4])))) 0, F_affiantref13_D⟩
theorem t_affiantref13_D : GoodAt Try.prog HH HSP 1 fn_affiantref13_D := goodAt_of (ho := HO) (l := []) rfl hl0 fun x => by kernel_rfl
noncomputable def F_affiantref11_Whole : Ps [.v (.lst true 1)] → Option (Rc.I (.pure (.one (.t (.v (.st [.arr .u64 4])))) 1)) := fun (v0 : (List V)) =>
 loopO (σ := ((List V) × ((List Int) × Int))) (R := (List Int)) (fun (v1, v2, v3) =>
  (if decide (v3 < 32) = true then
    some (decide (v3 < len v1))
   else
    some (false) : Option Bool).bind fun v4 =>
  if v4 = true then
    if 0 ≤ w64 (Int.tdiv v3 8) ∧ w64 (Int.tdiv v3 8) < 4 then
     if 0 + Int.toNat (w64 (Int.tdiv v3 8)) * 1 < 4 then
      ([T.p (V.int .u64 (getD v2 0 0)), T.p (V.int .u64 (getD v2 1 0)), T.p (V.int .u64 (getD v2 2 0)), T.p (V.int .u64 (getD v2 3 0))][0 + Int.toNat (w64 (Int.tdiv v3 8)) * 1]?).bind fun v5 =>
      (T.val? v5).bind fun v6 =>
       (V.int? .u64 v6).bind fun v7 =>
        if 0 ≤ v3 then
          (v1[Int.toNat v3]?).bind fun v8 =>
          (V.int? .u8 v8).bind fun v9 =>
           if wu64 (w64 (8 * Int.tmod v3 8)) < 0 then
             none
            else
             if 0 ≤ w64 (Int.tdiv v3 8) ∧ w64 (Int.tdiv v3 8) < 4 then
              if 0 + Int.toNat (w64 (Int.tdiv v3 8)) * 1 < 4 then
               if 0 + Int.toNat (w64 (Int.tdiv v3 8)) * 1 < 4 then
                (((((elemsS.T.pures (List.take 4 (List.set [T.p (V.int .u64 (getD v2 0 0)), T.p (V.int .u64 (getD v2 1 0)), T.p (V.int .u64 (getD v2 2 0)), T.p (V.int .u64 (getD v2 3 0))] (0 + Int.toNat (w64 (Int.tdiv v3 8)) * 1) (T.p (V.int .u64 (wu64 (v7 + wordShl .u64 (wu64 v9) (wu64 (w64 (8 * Int.tmod v3 8)))))))))).bind fun v10 =>
                    (intsOf .u64 4 v10).bind fun v11 =>
                     some ((v11, List.drop 4 (List.set [T.p (V.int .u64 (getD v2 0 0)), T.p (V.int .u64 (getD v2 1 0)), T.p (V.int .u64 (getD v2 2 0)), T.p (V.int .u64 (getD v2 3 0))] (0 + Int.toNat (w64 (Int.tdiv v3 8)) * 1) (T.p (V.int .u64 (wu64 (v7 + wordShl .u64 (wu64 v9) (wu64 (w64 (8 * Int.tmod v3 8)))))))))) : Option ((List Int) × (List T))).bind fun (v12, v13) =>
                   match v13 with
                    | [] =>
                     some (v12)
                    | v14 :: v15 =>
                     none : Option (List Int)).bind fun v16 =>
                  some ((v16, w64 (v3 + 1))) : Option ((List Int) × Int)).bind fun (v17, v18) =>
                 some ((v1, v17, v18)) : Option ((List V) × ((List Int) × Int))).bind fun (v19, v20, v21) =>
                some (.inl ((v19, v20, v21)))
               else
                none
              else
               none
             else
              none
         else
          none
     else
      none
    else
     none
   else
    some (.inr ([getD [getD v2 0 0, getD v2 1 0, getD v2 2 0, getD v2 3 0] 0 0, getD [getD v2 0 0, getD v2 1 0, getD v2 2 0, getD v2 3 0] 1 0, getD [getD v2 0 0, getD v2 1 0, getD v2 2 0, getD v2 3 0] 2 0, getD [getD v2 0 0, getD v2 1 0, getD v2 2 0, getD v2 3 0] 3 0]))) ((v0, [0, 0, 0, 0], 0))
noncomputable def fn_affiantref11_Whole : Fn := ⟨122, [.v (.lst true 1)], .pure (.one (.t (.v (.st [.arr .u64 4])))) 1, F_affiantref11_Whole⟩
theorem t_affiantref11_Whole : GoodAt Try.prog HH HSP 1 fn_affiantref11_Whole := goodAt_of (ho := HO) (l := []) rfl hl0 fun x => by kernel_rfl
noncomputable def F_affiantref11_Read : Ps [.v .agg] → Option (Rc.I (.pure (.tup [.t (.v (.st [.arr .u64 4])), .t (.v .bool)]) 1)) := fun (v0 : (List V)) =>
 if List.length v0 = 32 ∧ List.all v0 V.one = true then
  if idN 0 ≤ 32 ∧ idN 32 ≤ 32 ∧ 32 ≤ List.length (List.map T.p v0) then
   (elemsS.T.pures (List.take 32 (List.drop 0 (List.map T.p v0)))).bind fun v1 =>
   if V.stabL v1 = true then
     (F_affiantref11_Whole v1 : Option (List Int)).bind fun (v2 : (List Int)) =>
     (F_affiantref11_Prime PUnit.unit : Option (List Int)).bind fun (v3 : (List Int)) =>
      (F_affiantref11_Less ([getD [getD v2 0 0, getD v2 1 0, getD v2 2 0, getD v2 3 0] 0 0, getD [getD v2 0 0, getD v2 1 0, getD v2 2 0, getD v2 3 0] 1 0, getD [getD v2 0 0, getD v2 1 0, getD v2 2 0, getD v2 3 0] 2 0, getD [getD v2 0 0, getD v2 1 0, getD v2 2 0, getD v2 3 0] 3 0], [getD v3 0 0, getD v3 1 0, getD v3 2 0, getD v3 3 0]) : Option ((List Int) × Bool)).bind fun ((v4, v5) : ((List Int) × Bool)) =>
       if (!v5) = true then
         some (([0, 0, 0, 0], false))
        else
         some (([getD [getD v2 0 0, getD v2 1 0, getD v2 2 0, getD v2 3 0] 0 0, getD [getD v2 0 0, getD v2 1 0, getD v2 2 0, getD v2 3 0] 1 0, getD [getD v2 0 0, getD v2 1 0, getD v2 2 0, getD v2 3 0] 2 0, getD [getD v2 0 0, getD v2 1 0, getD v2 2 0, getD v2 3 0] 3 0], true))
    else
     none
  else
   none
 else
  none
noncomputable def fn_affiantref11_Read : Fn := ⟨89, [.v .agg], .pure (.tup [.t (.v (.st [.arr .u64 4])), .t (.v .bool)]) 1, F_affiantref11_Read⟩
theorem t_affiantref11_Read : GoodAt Try.prog HH HSP 2 fn_affiantref11_Read := goodAt_of (ho := HO) (l := [fn_affiantref11_Whole, fn_affiantref11_Prime, fn_affiantref11_Less]) rfl (hl1 (t_affiantref11_Whole.up (by decide)) (hl1 (t_affiantref11_Prime.up (by decide)) (hl1 (t_affiantref11_Less.up (by decide)) hl0))) fun x => by kernel_rfl
noncomputable def F_affiantref13_Unpack : Ps [.v .agg] → Option (Rc.I (.pure (.tup [.t (.v (.st rapi_Point)), .t (.v .bool)]) 1)) := fun (v0 : (List V)) =>
 if List.length v0 = 32 ∧ List.all v0 V.one = true then
  if 31 < List.length (List.map T.p v0) then
   ((List.map T.p v0)[31]?).bind fun v1 =>
   (T.val? v1).bind fun v2 =>
    (V.int? .u8 v2).bind fun v3 =>
     if 31 < List.length (List.map T.p v0) then
       ((List.map T.p v0)[31]?).bind fun v4 =>
       (T.val? v4).bind fun v5 =>
        (V.int? .u8 v5).bind fun v6 =>
         if 31 < List.length (List.map T.p v0) then
           if 31 < List.length (List.map T.p v0) then
            if 32 ≤ List.length (List.set (List.map T.p v0) 31 (T.p (V.int .u8 (Int.tmod v6 128)))) ∧ idN 0 < 32 then
             (elemsS.T.pures (List.take 32 (List.drop 0 (List.set (List.map T.p v0) 31 (T.p (V.int .u8 (Int.tmod v6 128))))))).bind fun v7 =>
             (F_affiantref11_Read v7 : Option ((List Int) × Bool)).bind fun ((v8, v9) : ((List Int) × Bool)) =>
              (F_affiantref11_Mul ([getD [getD v8 0 0, getD v8 1 0, getD v8 2 0, getD v8 3 0] 0 0, getD [getD v8 0 0, getD v8 1 0, getD v8 2 0, getD v8 3 0] 1 0, getD [getD v8 0 0, getD v8 1 0, getD v8 2 0, getD v8 3 0] 2 0, getD [getD v8 0 0, getD v8 1 0, getD v8 2 0, getD v8 3 0] 3 0], [getD [getD v8 0 0, getD v8 1 0, getD v8 2 0, getD v8 3 0] 0 0, getD [getD v8 0 0, getD v8 1 0, getD v8 2 0, getD v8 3 0] 1 0, getD [getD v8 0 0, getD v8 1 0, getD v8 2 0, getD v8 3 0] 2 0, getD [getD v8 0 0, getD v8 1 0, getD v8 2 0, getD v8 3 0] 3 0]) : Option (List Int)).bind fun (v10 : (List Int)) =>
               (F_affiantref11_Sub ([getD [getD v10 0 0, getD v10 1 0, getD v10 2 0, getD v10 3 0] 0 0, getD [getD v10 0 0, getD v10 1 0, getD v10 2 0, getD v10 3 0] 1 0, getD [getD v10 0 0, getD v10 1 0, getD v10 2 0, getD v10 3 0] 2 0, getD [getD v10 0 0, getD v10 1 0, getD v10 2 0, getD v10 3 0] 3 0], [1, 0, 0, 0]) : Option (List Int)).bind fun (v11 : (List Int)) =>
                (F_affiantref13_D PUnit.unit : Option (List Int)).bind fun (v12 : (List Int)) =>
                 (F_affiantref11_Mul ([getD v12 0 0, getD v12 1 0, getD v12 2 0, getD v12 3 0], [getD [getD v10 0 0, getD v10 1 0, getD v10 2 0, getD v10 3 0] 0 0, getD [getD v10 0 0, getD v10 1 0, getD v10 2 0, getD v10 3 0] 1 0, getD [getD v10 0 0, getD v10 1 0, getD v10 2 0, getD v10 3 0] 2 0, getD [getD v10 0 0, getD v10 1 0, getD v10 2 0, getD v10 3 0] 3 0]) : Option (List Int)).bind fun (v13 : (List Int)) =>
                  (F_affiantref11_Add ([getD v13 0 0, getD v13 1 0, getD v13 2 0, getD v13 3 0], [1, 0, 0, 0]) : Option (List Int)).bind fun (v14 : (List Int)) =>
                   (F_affiantref11_Inv [getD [getD v14 0 0, getD v14 1 0, getD v14 2 0, getD v14 3 0] 0 0, getD [getD v14 0 0, getD v14 1 0, getD v14 2 0, getD v14 3 0] 1 0, getD [getD v14 0 0, getD v14 1 0, getD v14 2 0, getD v14 3 0] 2 0, getD [getD v14 0 0, getD v14 1 0, getD v14 2 0, getD v14 3 0] 3 0] : Option (List Int)).bind fun (v15 : (List Int)) =>
                    (F_affiantref11_Mul ([getD [getD v11 0 0, getD v11 1 0, getD v11 2 0, getD v11 3 0] 0 0, getD [getD v11 0 0, getD v11 1 0, getD v11 2 0, getD v11 3 0] 1 0, getD [getD v11 0 0, getD v11 1 0, getD v11 2 0, getD v11 3 0] 2 0, getD [getD v11 0 0, getD v11 1 0, getD v11 2 0, getD v11 3 0] 3 0], [getD v15 0 0, getD v15 1 0, getD v15 2 0, getD v15 3 0]) : Option (List Int)).bind fun (v16 : (List Int)) =>
                     (F_affiantref11_Root [getD v16 0 0, getD v16 1 0, getD v16 2 0, getD v16 3 0] : Option ((List Int) × Bool)).bind fun ((v17, v18) : ((List Int) × Bool)) =>
                      (if (!v9) = false then
                         if (!v18) = false then
                          if decide (v3 ≥ 128) = true then
                           some ([getD [getD v17 0 0, getD v17 1 0, getD v17 2 0, getD v17 3 0] 0 0, getD [getD v17 0 0, getD v17 1 0, getD v17 2 0, getD v17 3 0] 1 0, getD [getD v17 0 0, getD v17 1 0, getD v17 2 0, getD v17 3 0] 2 0, getD [getD v17 0 0, getD v17 1 0, getD v17 2 0, getD v17 3 0] 3 0] == [0, 0, 0, 0])
                          else
                           some (false)
                         else
                          some (true)
                        else
                         some (true) : Option Bool).bind fun v19 =>
                       if v19 = true then
                         (F_affiantref13_Zero PUnit.unit : Option ((List Int) × (List Int))).bind fun ((v20, v21) : ((List Int) × (List Int))) =>
                         some ((([getD v20 0 0, getD v20 1 0, getD v20 2 0, getD v20 3 0], [getD v21 0 0, getD v21 1 0, getD v21 2 0, getD v21 3 0]), false))
                        else
                         (if decide (v3 ≥ 128) = true then
                           (F_affiantref11_Sub ([0, 0, 0, 0], [getD [getD v17 0 0, getD v17 1 0, getD v17 2 0, getD v17 3 0] 0 0, getD [getD v17 0 0, getD v17 1 0, getD v17 2 0, getD v17 3 0] 1 0, getD [getD v17 0 0, getD v17 1 0, getD v17 2 0, getD v17 3 0] 2 0, getD [getD v17 0 0, getD v17 1 0, getD v17 2 0, getD v17 3 0] 3 0]) : Option (List Int)).bind fun (v22 : (List Int)) =>
                           some (.inl ([getD v22 0 0, getD v22 1 0, getD v22 2 0, getD v22 3 0]))
                          else
                           some (.inl ([getD v17 0 0, getD v17 1 0, getD v17 2 0, getD v17 3 0])) : Option ((List Int) ⊕ (((List Int) × (List Int)) × Bool))).bind fun v23 =>
                         match v23 with
                          | .inl v24 =>
                           some ((([getD [getD v24 0 0, getD v24 1 0, getD v24 2 0, getD v24 3 0] 0 0, getD [getD v24 0 0, getD v24 1 0, getD v24 2 0, getD v24 3 0] 1 0, getD [getD v24 0 0, getD v24 1 0, getD v24 2 0, getD v24 3 0] 2 0, getD [getD v24 0 0, getD v24 1 0, getD v24 2 0, getD v24 3 0] 3 0], [getD [getD v8 0 0, getD v8 1 0, getD v8 2 0, getD v8 3 0] 0 0, getD [getD v8 0 0, getD v8 1 0, getD v8 2 0, getD v8 3 0] 1 0, getD [getD v8 0 0, getD v8 1 0, getD v8 2 0, getD v8 3 0] 2 0, getD [getD v8 0 0, getD v8 1 0, getD v8 2 0, getD v8 3 0] 3 0]), true))
                          | .inr ((v25, v26), v27) =>
                           some (((v25, v26), v27))
            else
             none
           else
            none
          else
           none
      else
       none
  else
   none
 else
  none
noncomputable def fn_affiantref13_Unpack : Fn := ⟨58, [.v .agg], .pure (.tup [.t (.v (.st rapi_Point)), .t (.v .bool)]) 1, F_affiantref13_Unpack⟩
theorem t_affiantref13_Unpack : GoodAt Try.prog HH HSP 7 fn_affiantref13_Unpack := goodAt_of (ho := HO) (l := [fn_affiantref11_Read, fn_affiantref11_Mul, fn_affiantref11_Sub, fn_affiantref13_D, fn_affiantref11_Add, fn_affiantref11_Inv, fn_affiantref11_Root, fn_affiantref13_Zero]) rfl (hl1 (t_affiantref11_Read.up (by decide)) (hl1 (t_affiantref11_Mul.up (by decide)) (hl1 (t_affiantref11_Sub.up (by decide)) (hl1 (t_affiantref13_D.up (by decide)) (hl1 (t_affiantref11_Add.up (by decide)) (hl1 (t_affiantref11_Inv.up (by decide)) (hl1 (t_affiantref11_Root.up (by decide)) (hl1 (t_affiantref13_Zero.up (by decide)) hl0)))))))) fun x => by kernel_rfl
noncomputable def F_affiantref04_Bit : Ps [.v (.lst true 1), .v (.int .i64)] → Option (Rc.I (.pure (.one (.t (.v (.int .i64)))) 2)) := fun ((v0, v1) : ((List V) × Int)) =>
 (if decide (v1 < 0) = false then
   some (decide (w64 (Int.tdiv v1 32) ≥ len v0))
  else
   some (true) : Option Bool).bind fun v2 =>
 if v2 = true then
   some (0)
  else
   if 0 ≤ w64 (Int.tdiv v1 32) then
    (v0[Int.toNat (w64 (Int.tdiv v1 32))]?).bind fun v3 =>
    (V.int? .u32 v3).bind fun v4 =>
     if wu64 (Int.tmod v1 32) < 0 then
       none
      else
       if wordShl .u32 1 (wu64 (Int.tmod v1 32)) = 0 then
        none
       else
        some (w64 (Int.tmod (wu32 (Int.tdiv v4 (wordShl .u32 1 (wu64 (Int.tmod v1 32))))) 2))
   else
    none
noncomputable def fn_affiantref04_Bit : Fn := ⟨88, [.v (.lst true 1), .v (.int .i64)], .pure (.one (.t (.v (.int .i64)))) 2, F_affiantref04_Bit⟩
theorem t_affiantref04_Bit : GoodAt Try.prog HH HSP 1 fn_affiantref04_Bit := goodAt_of (ho := HO) (l := []) rfl hl0 fun x => by kernel_rfl
noncomputable def F_affiantref10_Check : Ps [.v (.lst true 1), .v (.lst true 1)] → Option (Rc.I (.pure (.one (.t (.v (.int .i64)))) 2)) := fun ((v0, v1) : ((List V) × (List V))) =>
 (F_affiantref04_Bits v0 : Option Int).bind fun (v2 : Int) =>
 if decide (v2 < 2048) = true then
   some (10)
  else
   if decide (v2 > 8192) = true then
    some (4)
   else
    ((F_affiantref04_Bit (v0, 0) : Option Int).bind fun (v3 : Int) =>
     if (v3 == 0) = false then
       (F_affiantref04_Bit (v1, 0) : Option Int).bind fun (v4 : Int) =>
       if (v4 == 0) = false then
         (F_affiantref04_Bits v1 : Option Int).bind fun (v5 : Int) =>
         if decide (v5 < 2) = false then
           (F_affiantref04_Bits v1 : Option Int).bind fun (v6 : Int) =>
           some (decide (v6 > 64))
          else
           some (true)
        else
         some (true)
      else
       some (true) : Option Bool).bind fun v7 =>
    if v7 = true then
      some (1)
     else
      some (0)
noncomputable def fn_affiantref10_Check : Fn := ⟨57, [.v (.lst true 1), .v (.lst true 1)], .pure (.one (.t (.v (.int .i64)))) 2, F_affiantref10_Check⟩
theorem t_affiantref10_Check : GoodAt Try.prog HH HSP 4 fn_affiantref10_Check := goodAt_of (ho := HO) (l := [fn_affiantref04_Bits, fn_affiantref04_Bit]) rfl (hl1 (t_affiantref04_Bits.up (by decide)) (hl1 (t_affiantref04_Bit.up (by decide)) hl0)) fun x => by kernel_rfl
noncomputable def F_affiantref23_Check : Ps [.v (.st rapi_Key)] → Option (Rc.I (.pure (.one (.t (.v (.int .i64)))) 1)) := fun ((v0, v1, v2, v3, v4, v5) : (Int × (Int × (Int × ((List V) × ((List V) × (List Int))))))) =>
 (F_affiantref23_Emit (v0, v1, v2, v3, v4, fitI v5 0 32) : Option ((List V) × Int)).bind fun ((v6, v7) : ((List V) × Int)) =>
 if (v7 != 0) = true then
   some (v7)
  else
   if (v2 == 1) = true then
    (F_affiantref10_Check (v3, v4) : Option Int).bind fun (v8 : Int) =>
    some (v8)
   else
    (F_affiantref13_Unpack (arrV .u8 v5 0 32) : Option (((List Int) × (List Int)) × Bool)).bind fun (((v9, v10), v11) : (((List Int) × (List Int)) × Bool)) =>
    if (!v11) = true then
      some (1)
     else
      some (0)
noncomputable def fn_affiantref23_Check : Fn := ⟨28, [.v (.st rapi_Key)], .pure (.one (.t (.v (.int .i64)))) 1, F_affiantref23_Check⟩
theorem t_affiantref23_Check : GoodAt Try.prog HH HSP 8 fn_affiantref23_Check := goodAt_of (ho := HO) (l := [fn_affiantref23_Emit, fn_affiantref10_Check, fn_affiantref13_Unpack]) rfl (hl1 (t_affiantref23_Emit.up (by decide)) (hl1 (t_affiantref10_Check.up (by decide)) (hl1 (t_affiantref13_Unpack.up (by decide)) hl0))) fun x => by kernel_rfl
noncomputable def F_field_plus : Ps [.v (.st [.arr .u64 4]), .v (.st [.arr .u64 4])] → Option (Rc.I (.pure (.tup [.t (.v (.st [.arr .u64 4])), .t (.v (.int .u64))]) 2)) := fun ((v0, v1) : ((List Int) × (List Int))) =>
 loopO (σ := ((List Int) × ((List Int) × (Int × Int)))) (R := ((List Int) × Int)) (fun (v2, v3, v4, v5) =>
  if decide (v5 < 4) = true then
   if 0 ≤ v5 ∧ v5 < 4 then
    if 0 + Int.toNat v5 * 1 < 4 then
     ([T.p (V.int .u64 (getD v2 0 0)), T.p (V.int .u64 (getD v2 1 0)), T.p (V.int .u64 (getD v2 2 0)), T.p (V.int .u64 (getD v2 3 0))][0 + Int.toNat v5 * 1]?).bind fun v6 =>
     (T.val? v6).bind fun v7 =>
      (V.int? .u64 v7).bind fun v8 =>
       if 0 ≤ v5 ∧ v5 < 4 then
         if 0 + Int.toNat v5 * 1 < 4 then
          ([T.p (V.int .u64 (getD v3 0 0)), T.p (V.int .u64 (getD v3 1 0)), T.p (V.int .u64 (getD v3 2 0)), T.p (V.int .u64 (getD v3 3 0))][0 + Int.toNat v5 * 1]?).bind fun v9 =>
          (T.val? v9).bind fun v10 =>
           (V.int? .u64 v10).bind fun v11 =>
            if 0 ≤ v8 ∧ 0 ≤ v11 ∧ 0 ≤ v4 ∧ v4 ≤ 1 then
              if 0 ≤ v5 ∧ v5 < 4 then
               if 0 + Int.toNat v5 * 1 < 4 then
                if 0 + Int.toNat v5 * 1 < 4 then
                 ((((elemsS.T.pures (List.take 4 (List.set [T.p (V.int .u64 (getD v2 0 0)), T.p (V.int .u64 (getD v2 1 0)), T.p (V.int .u64 (getD v2 2 0)), T.p (V.int .u64 (getD v2 3 0))] (0 + Int.toNat v5 * 1) (T.p (V.int .u64 (adc v8 v11 v4)))))).bind fun v12 =>
                    (intsOf .u64 4 v12).bind fun v13 =>
                     some ((v13, List.drop 4 (List.set [T.p (V.int .u64 (getD v2 0 0)), T.p (V.int .u64 (getD v2 1 0)), T.p (V.int .u64 (getD v2 2 0)), T.p (V.int .u64 (getD v2 3 0))] (0 + Int.toNat v5 * 1) (T.p (V.int .u64 (adc v8 v11 v4)))))) : Option ((List Int) × (List T))).bind fun (v14, v15) =>
                   match v15 with
                    | [] =>
                     some (v14)
                    | v16 :: v17 =>
                     none : Option (List Int)).bind fun v18 =>
                  some ((v18, [getD v3 0 0, getD v3 1 0, getD v3 2 0, getD v3 3 0], adcC v8 v11 v4, w64 (v5 + 1))) : Option ((List Int) × ((List Int) × (Int × Int)))).bind fun (v19, v20, v21, v22) =>
                 some (.inl ((v19, v20, v21, v22)))
                else
                 none
               else
                none
              else
               none
             else
              none
         else
          none
        else
         none
    else
     none
   else
    none
  else
   some (.inr (([getD [getD v2 0 0, getD v2 1 0, getD v2 2 0, getD v2 3 0] 0 0, getD [getD v2 0 0, getD v2 1 0, getD v2 2 0, getD v2 3 0] 1 0, getD [getD v2 0 0, getD v2 1 0, getD v2 2 0, getD v2 3 0] 2 0, getD [getD v2 0 0, getD v2 1 0, getD v2 2 0, getD v2 3 0] 3 0], v4)))) (([getD v0 0 0, getD v0 1 0, getD v0 2 0, getD v0 3 0], [getD v1 0 0, getD v1 1 0, getD v1 2 0, getD v1 3 0], 0, 0))
noncomputable def fn_field_plus : Fn := ⟨115, [.v (.st [.arr .u64 4]), .v (.st [.arr .u64 4])], .pure (.tup [.t (.v (.st [.arr .u64 4])), .t (.v (.int .u64))]) 2, F_field_plus⟩
theorem t_field_plus : GoodAt Try.prog HH HSP 1 fn_field_plus := goodAt_of (ho := HO) (l := []) rfl hl0 fun x => by kernel_rfl
noncomputable def F_field_prime : Ps [] → Option (Rc.I (.pure (.one (.t (.v (.st [.arr .u64 4])))) 0)) := fun (v0 : Unit) =>
 some ([18446744073709551597, 18446744073709551615, 18446744073709551615, 9223372036854775807])
noncomputable def fn_field_prime : Fn := ⟨113, [], .pure (.one (.t (.v (.st [.arr .u64 4])))) 0, F_field_prime⟩
theorem t_field_prime : GoodAt Try.prog HH HSP 1 fn_field_prime := goodAt_of (ho := HO) (l := []) rfl hl0 fun x => by kernel_rfl
noncomputable def F_field_minus : Ps [.v (.st [.arr .u64 4]), .v (.st [.arr .u64 4])] → Option (Rc.I (.pure (.tup [.t (.v (.st [.arr .u64 4])), .t (.v (.int .u64))]) 2)) := fun ((v0, v1) : ((List Int) × (List Int))) =>
 loopO (σ := ((List Int) × ((List Int) × (Int × Int)))) (R := ((List Int) × Int)) (fun (v2, v3, v4, v5) =>
  if decide (v5 < 4) = true then
   if 0 ≤ v5 ∧ v5 < 4 then
    if 0 + Int.toNat v5 * 1 < 4 then
     ([T.p (V.int .u64 (getD v2 0 0)), T.p (V.int .u64 (getD v2 1 0)), T.p (V.int .u64 (getD v2 2 0)), T.p (V.int .u64 (getD v2 3 0))][0 + Int.toNat v5 * 1]?).bind fun v6 =>
     (T.val? v6).bind fun v7 =>
      (V.int? .u64 v7).bind fun v8 =>
       if 0 ≤ v5 ∧ v5 < 4 then
         if 0 + Int.toNat v5 * 1 < 4 then
          ([T.p (V.int .u64 (getD v3 0 0)), T.p (V.int .u64 (getD v3 1 0)), T.p (V.int .u64 (getD v3 2 0)), T.p (V.int .u64 (getD v3 3 0))][0 + Int.toNat v5 * 1]?).bind fun v9 =>
          (T.val? v9).bind fun v10 =>
           (V.int? .u64 v10).bind fun v11 =>
            if 0 ≤ v8 ∧ 0 ≤ v11 ∧ v11 < 18446744073709551616 ∧ 0 ≤ v4 ∧ v4 ≤ 1 then
              if 0 ≤ v5 ∧ v5 < 4 then
               if 0 + Int.toNat v5 * 1 < 4 then
                if 0 + Int.toNat v5 * 1 < 4 then
                 ((((elemsS.T.pures (List.take 4 (List.set [T.p (V.int .u64 (getD v2 0 0)), T.p (V.int .u64 (getD v2 1 0)), T.p (V.int .u64 (getD v2 2 0)), T.p (V.int .u64 (getD v2 3 0))] (0 + Int.toNat v5 * 1) (T.p (V.int .u64 (sbb v8 v11 v4)))))).bind fun v12 =>
                    (intsOf .u64 4 v12).bind fun v13 =>
                     some ((v13, List.drop 4 (List.set [T.p (V.int .u64 (getD v2 0 0)), T.p (V.int .u64 (getD v2 1 0)), T.p (V.int .u64 (getD v2 2 0)), T.p (V.int .u64 (getD v2 3 0))] (0 + Int.toNat v5 * 1) (T.p (V.int .u64 (sbb v8 v11 v4)))))) : Option ((List Int) × (List T))).bind fun (v14, v15) =>
                   match v15 with
                    | [] =>
                     some (v14)
                    | v16 :: v17 =>
                     none : Option (List Int)).bind fun v18 =>
                  some ((v18, [getD v3 0 0, getD v3 1 0, getD v3 2 0, getD v3 3 0], sbbC v8 v11 v4, w64 (v5 + 1))) : Option ((List Int) × ((List Int) × (Int × Int)))).bind fun (v19, v20, v21, v22) =>
                 some (.inl ((v19, v20, v21, v22)))
                else
                 none
               else
                none
              else
               none
             else
              none
         else
          none
        else
         none
    else
     none
   else
    none
  else
   some (.inr (([getD [getD v2 0 0, getD v2 1 0, getD v2 2 0, getD v2 3 0] 0 0, getD [getD v2 0 0, getD v2 1 0, getD v2 2 0, getD v2 3 0] 1 0, getD [getD v2 0 0, getD v2 1 0, getD v2 2 0, getD v2 3 0] 2 0, getD [getD v2 0 0, getD v2 1 0, getD v2 2 0, getD v2 3 0] 3 0], v4)))) (([getD v0 0 0, getD v0 1 0, getD v0 2 0, getD v0 3 0], [getD v1 0 0, getD v1 1 0, getD v1 2 0, getD v1 3 0], 0, 0))
noncomputable def fn_field_minus : Fn := ⟨112, [.v (.st [.arr .u64 4]), .v (.st [.arr .u64 4])], .pure (.tup [.t (.v (.st [.arr .u64 4])), .t (.v (.int .u64))]) 2, F_field_minus⟩
theorem t_field_minus : GoodAt Try.prog HH HSP 1 fn_field_minus := goodAt_of (ho := HO) (l := []) rfl hl0 fun x => by kernel_rfl
noncomputable def F_field_Reduce : Ps [.v (.st [.arr .u64 4])] → Option (Rc.I (.pure (.one (.t (.v (.st [.arr .u64 4])))) 1)) := fun (v0 : (List Int)) =>
 (F_field_plus ([getD [getD v0 0 0, getD v0 1 0, getD v0 2 0, wordAndNot .u64 (getD v0 3 0) 9223372036854775808] 0 0, getD [getD v0 0 0, getD v0 1 0, getD v0 2 0, wordAndNot .u64 (getD v0 3 0) 9223372036854775808] 1 0, getD [getD v0 0 0, getD v0 1 0, getD v0 2 0, wordAndNot .u64 (getD v0 3 0) 9223372036854775808] 2 0, getD [getD v0 0 0, getD v0 1 0, getD v0 2 0, wordAndNot .u64 (getD v0 3 0) 9223372036854775808] 3 0], [wu64 (19 * wordShr .u64 (getD v0 3 0) 63), 0, 0, 0]) : Option ((List Int) × Int)).bind fun ((v1, v2) : ((List Int) × Int)) =>
 (F_field_prime PUnit.unit : Option (List Int)).bind fun (v3 : (List Int)) =>
  (F_field_minus ([getD [getD v1 0 0, getD v1 1 0, getD v1 2 0, getD v1 3 0] 0 0, getD [getD v1 0 0, getD v1 1 0, getD v1 2 0, getD v1 3 0] 1 0, getD [getD v1 0 0, getD v1 1 0, getD v1 2 0, getD v1 3 0] 2 0, getD [getD v1 0 0, getD v1 1 0, getD v1 2 0, getD v1 3 0] 3 0], [getD v3 0 0, getD v3 1 0, getD v3 2 0, getD v3 3 0]) : Option ((List Int) × Int)).bind fun ((v4, v5) : ((List Int) × Int)) =>
   if (v5 == 0) = true then
     some ([getD [getD v4 0 0, getD v4 1 0, getD v4 2 0, getD v4 3 0] 0 0, getD [getD v4 0 0, getD v4 1 0, getD v4 2 0, getD v4 3 0] 1 0, getD [getD v4 0 0, getD v4 1 0, getD v4 2 0, getD v4 3 0] 2 0, getD [getD v4 0 0, getD v4 1 0, getD v4 2 0, getD v4 3 0] 3 0])
    else
     some ([getD [getD v1 0 0, getD v1 1 0, getD v1 2 0, getD v1 3 0] 0 0, getD [getD v1 0 0, getD v1 1 0, getD v1 2 0, getD v1 3 0] 1 0, getD [getD v1 0 0, getD v1 1 0, getD v1 2 0, getD v1 3 0] 2 0, getD [getD v1 0 0, getD v1 1 0, getD v1 2 0, getD v1 3 0] 3 0])
noncomputable def fn_field_Reduce : Fn := ⟨114, [.v (.st [.arr .u64 4])], .pure (.one (.t (.v (.st [.arr .u64 4])))) 1, F_field_Reduce⟩
theorem t_field_Reduce : GoodAt Try.prog HH HSP 2 fn_field_Reduce := goodAt_of (ho := HO) (l := [fn_field_plus, fn_field_prime, fn_field_minus]) rfl (hl1 (t_field_plus.up (by decide)) (hl1 (t_field_prime.up (by decide)) (hl1 (t_field_minus.up (by decide)) hl0))) fun x => by kernel_rfl
noncomputable def F_field_Sub : Ps [.v (.st [.arr .u64 4]), .v (.st [.arr .u64 4])] → Option (Rc.I (.pure (.one (.t (.v (.st [.arr .u64 4])))) 2)) := fun ((v0, v1) : ((List Int) × (List Int))) =>
 (F_field_Reduce [getD [getD v0 0 0, getD v0 1 0, getD v0 2 0, getD v0 3 0] 0 0, getD [getD v0 0 0, getD v0 1 0, getD v0 2 0, getD v0 3 0] 1 0, getD [getD v0 0 0, getD v0 1 0, getD v0 2 0, getD v0 3 0] 2 0, getD [getD v0 0 0, getD v0 1 0, getD v0 2 0, getD v0 3 0] 3 0] : Option (List Int)).bind fun (v2 : (List Int)) =>
 (F_field_Reduce [getD [getD v1 0 0, getD v1 1 0, getD v1 2 0, getD v1 3 0] 0 0, getD [getD v1 0 0, getD v1 1 0, getD v1 2 0, getD v1 3 0] 1 0, getD [getD v1 0 0, getD v1 1 0, getD v1 2 0, getD v1 3 0] 2 0, getD [getD v1 0 0, getD v1 1 0, getD v1 2 0, getD v1 3 0] 3 0] : Option (List Int)).bind fun (v3 : (List Int)) =>
  (F_field_minus ([getD v2 0 0, getD v2 1 0, getD v2 2 0, getD v2 3 0], [getD v3 0 0, getD v3 1 0, getD v3 2 0, getD v3 3 0]) : Option ((List Int) × Int)).bind fun ((v4, v5) : ((List Int) × Int)) =>
   (if (v5 != 0) = true then
      (F_field_prime PUnit.unit : Option (List Int)).bind fun (v6 : (List Int)) =>
      (F_field_plus ([getD [getD v4 0 0, getD v4 1 0, getD v4 2 0, getD v4 3 0] 0 0, getD [getD v4 0 0, getD v4 1 0, getD v4 2 0, getD v4 3 0] 1 0, getD [getD v4 0 0, getD v4 1 0, getD v4 2 0, getD v4 3 0] 2 0, getD [getD v4 0 0, getD v4 1 0, getD v4 2 0, getD v4 3 0] 3 0], [getD v6 0 0, getD v6 1 0, getD v6 2 0, getD v6 3 0]) : Option ((List Int) × Int)).bind fun ((v7, v8) : ((List Int) × Int)) =>
       some (.inl ([getD v7 0 0, getD v7 1 0, getD v7 2 0, getD v7 3 0]))
     else
      some (.inl ([getD v4 0 0, getD v4 1 0, getD v4 2 0, getD v4 3 0])) : Option ((List Int) ⊕ (List Int))).bind fun v9 =>
    match v9 with
     | .inl v10 =>
      some ([getD [getD v10 0 0, getD v10 1 0, getD v10 2 0, getD v10 3 0] 0 0, getD [getD v10 0 0, getD v10 1 0, getD v10 2 0, getD v10 3 0] 1 0, getD [getD v10 0 0, getD v10 1 0, getD v10 2 0, getD v10 3 0] 2 0, getD [getD v10 0 0, getD v10 1 0, getD v10 2 0, getD v10 3 0] 3 0])
     | .inr v11 =>
      some (v11)
noncomputable def fn_field_Sub : Fn := ⟨78, [.v (.st [.arr .u64 4]), .v (.st [.arr .u64 4])], .pure (.one (.t (.v (.st [.arr .u64 4])))) 2, F_field_Sub⟩
theorem t_field_Sub : GoodAt Try.prog HH HSP 3 fn_field_Sub := goodAt_of (ho := HO) (l := [fn_field_Reduce, fn_field_minus, fn_field_prime, fn_field_plus]) rfl (hl1 (t_field_Reduce.up (by decide)) (hl1 (t_field_minus.up (by decide)) (hl1 (t_field_prime.up (by decide)) (hl1 (t_field_plus.up (by decide)) hl0)))) fun x => by kernel_rfl
noncomputable def F_field_From : Ps [.v (.int .u64)] → Option (Rc.I (.pure (.one (.t (.v (.st [.arr .u64 4])))) 1)) := fun (v0 : Int) =>
 some ([v0, 0, 0, 0])
noncomputable def fn_field_From : Fn := ⟨116, [.v (.int .u64)], .pure (.one (.t (.v (.st [.arr .u64 4])))) 1, F_field_From⟩
theorem t_field_From : GoodAt Try.prog HH HSP 1 fn_field_From := goodAt_of (ho := HO) (l := []) rfl hl0 fun x => by kernel_rfl
noncomputable def F_edwards_one : Ps [] → Option (Rc.I (.pure (.one (.t (.v (.st [.arr .u64 4])))) 0)) := fun (v0 : Unit) =>
 (F_field_From 1 : Option (List Int)).bind fun (v1 : (List Int)) =>
 some ([getD v1 0 0, getD v1 1 0, getD v1 2 0, getD v1 3 0])
noncomputable def fn_edwards_one : Fn := ⟨79, [], .pure (.one (.t (.v (.st [.arr .u64 4])))) 0, F_edwards_one⟩
theorem t_edwards_one : GoodAt Try.prog HH HSP 2 fn_edwards_one := goodAt_of (ho := HO) (l := [fn_field_From]) rfl (hl1 (t_field_From.up (by decide)) hl0) fun x => by kernel_rfl
noncomputable def F_edwards_Zero : Ps [] → Option (Rc.I (.pure (.one (.t (.v (.st rapi_Point)))) 0)) := fun (v0 : Unit) =>
 (F_edwards_one PUnit.unit : Option (List Int)).bind fun (v1 : (List Int)) =>
 some (([0, 0, 0, 0], [getD v1 0 0, getD v1 1 0, getD v1 2 0, getD v1 3 0]))
noncomputable def fn_edwards_Zero : Fn := ⟨76, [], .pure (.one (.t (.v (.st rapi_Point)))) 0, F_edwards_Zero⟩
theorem t_edwards_Zero : GoodAt Try.prog HH HSP 3 fn_edwards_Zero := goodAt_of (ho := HO) (l := [fn_edwards_one]) rfl (hl1 (t_edwards_one.up (by decide)) hl0) fun x => by kernel_rfl
noncomputable def F_math_bits_Mul64 : Ps [.v (.int .u64), .v (.int .u64)] → Option (Rc.I (.pure (.tup [.t (.v (.int .u64)), .t (.v (.int .u64))]) 2)) := fun ((v0, v1) : (Int × Int)) =>
 some ((wu64 (wu64 (wu64 (wordShr .u64 v0 32 * wordShr .u64 v1 32) + wordShr .u64 (wu64 (wu64 (wordShr .u64 v0 32 * wordAnd .u64 v1 4294967295) + wordShr .u64 (wu64 (wordAnd .u64 v0 4294967295 * wordAnd .u64 v1 4294967295)) 32)) 32) + wordShr .u64 (wu64 (wordAnd .u64 (wu64 (wu64 (wordShr .u64 v0 32 * wordAnd .u64 v1 4294967295) + wordShr .u64 (wu64 (wordAnd .u64 v0 4294967295 * wordAnd .u64 v1 4294967295)) 32)) 4294967295 + wu64 (wordAnd .u64 v0 4294967295 * wordShr .u64 v1 32))) 32), wu64 (v0 * v1)))
noncomputable def fn_math_bits_Mul64 : Fn := ⟨149, [.v (.int .u64), .v (.int .u64)], .pure (.tup [.t (.v (.int .u64)), .t (.v (.int .u64))]) 2, F_math_bits_Mul64⟩
theorem t_math_bits_Mul64 : GoodAt Try.prog HH HSP 1 fn_math_bits_Mul64 := goodAt_of (ho := HO) (l := []) rfl hl0 fun x => by kernel_rfl
noncomputable def F_field_times38 : Ps [.v (.st [.arr .u64 4])] → Option (Rc.I (.pure (.tup [.t (.v (.st [.arr .u64 4])), .t (.v (.int .u64))]) 1)) := fun (v0 : (List Int)) =>
 loopO (σ := ((List Int) × (Int × ((Int × (Int × (Int × Int))) × Int)))) (R := ((List Int) × Int)) (fun (v1, v2, (v3, v4, v5, v6), v7) =>
  if decide (v7 < 4) = true then
   if 0 ≤ v7 ∧ v7 < 4 then
    ([v3, v4, v5, v6][Int.toNat v7]?).bind fun v8 =>
    (F_math_bits_Mul64 (v8, 38) : Option (Int × Int)).bind fun ((v9, v10) : (Int × Int)) =>
     if 0 ≤ v10 ∧ 0 ≤ v2 ∧ idI 0 ≤ 0 ∧ idI 0 ≤ 1 then
       if 0 ≤ v7 ∧ v7 < 4 then
        if 0 + Int.toNat v7 * 1 < 4 then
         if 0 + Int.toNat v7 * 1 < 4 then
          ((((elemsS.T.pures (List.take 4 (List.set [T.p (V.int .u64 (getD v1 0 0)), T.p (V.int .u64 (getD v1 1 0)), T.p (V.int .u64 (getD v1 2 0)), T.p (V.int .u64 (getD v1 3 0))] (0 + Int.toNat v7 * 1) (T.p (V.int .u64 (adc v10 v2 0)))))).bind fun v11 =>
             (intsOf .u64 4 v11).bind fun v12 =>
              some ((v12, List.drop 4 (List.set [T.p (V.int .u64 (getD v1 0 0)), T.p (V.int .u64 (getD v1 1 0)), T.p (V.int .u64 (getD v1 2 0)), T.p (V.int .u64 (getD v1 3 0))] (0 + Int.toNat v7 * 1) (T.p (V.int .u64 (adc v10 v2 0)))))) : Option ((List Int) × (List T))).bind fun (v13, v14) =>
            match v14 with
             | [] =>
              some (v13)
             | v15 :: v16 =>
              none : Option (List Int)).bind fun v17 =>
           some ((v17, wu64 (v9 + adcC v10 v2 0), (v3, v4, v5, v6), w64 (v7 + 1))) : Option ((List Int) × (Int × ((Int × (Int × (Int × Int))) × Int)))).bind fun (v18, v19, (v20, v21, v22, v23), v24) =>
          some (.inl ((v18, v19, (v20, v21, v22, v23), v24)))
         else
          none
        else
         none
       else
        none
      else
       none
   else
    none
  else
   some (.inr (([getD [getD v1 0 0, getD v1 1 0, getD v1 2 0, getD v1 3 0] 0 0, getD [getD v1 0 0, getD v1 1 0, getD v1 2 0, getD v1 3 0] 1 0, getD [getD v1 0 0, getD v1 1 0, getD v1 2 0, getD v1 3 0] 2 0, getD [getD v1 0 0, getD v1 1 0, getD v1 2 0, getD v1 3 0] 3 0], v2)))) (([getD v0 0 0, getD v0 1 0, getD v0 2 0, getD v0 3 0], 0, (getD [getD v0 0 0, getD v0 1 0, getD v0 2 0, getD v0 3 0] 0 0, getD [getD v0 0 0, getD v0 1 0, getD v0 2 0, getD v0 3 0] 1 0, getD [getD v0 0 0, getD v0 1 0, getD v0 2 0, getD v0 3 0] 2 0, getD [getD v0 0 0, getD v0 1 0, getD v0 2 0, getD v0 3 0] 3 0), 0))
noncomputable def fn_field_times38 : Fn := ⟨118, [.v (.st [.arr .u64 4])], .pure (.tup [.t (.v (.st [.arr .u64 4])), .t (.v (.int .u64))]) 1, F_field_times38⟩
theorem t_field_times38 : GoodAt Try.prog HH HSP 2 fn_field_times38 := goodAt_of (ho := HO) (l := [fn_math_bits_Mul64]) rfl (hl1 (t_math_bits_Mul64.up (by decide)) hl0) fun x => by kernel_rfl
noncomputable def F_field_product : Ps [.v (.st [.arr .u64 4]), .v (.st [.arr .u64 4])] → Option (Rc.I (.pure (.tup [.t (.v (.st [.arr .u64 4])), .t (.v (.st [.arr .u64 4]))]) 2)) := fun ((v0, v1) : ((List Int) × (List Int))) =>
 loopO (σ := ((List Int) × ((List Int) × ((Int × (Int × (Int × Int))) × Int)))) (R := ((List Int) × (List Int))) (fun (v2, v3, (v4, v5, v6, v7), v8) =>
  if decide (v8 < 4) = true then
   if 0 ≤ v8 ∧ v8 < 4 then
    ([v4, v5, v6, v7][Int.toNat v8]?).bind fun v9 =>
    loopO (σ := ((List Int) × (Int × (Int × (Int × ((Int × (Int × (Int × Int))) × Int)))))) (R := (((List Int) × ((List Int) × ((Int × (Int × (Int × Int))) × Int))) ⊕ ((List Int) × (List Int)))) (fun (v10, v11, v12, v13, (v14, v15, v16, v17), v18) =>
      if decide (v18 < 4) = true then
       if 0 ≤ v18 ∧ v18 < 4 then
        ([v14, v15, v16, v17][Int.toNat v18]?).bind fun v19 =>
        (F_math_bits_Mul64 (v12, v19) : Option (Int × Int)).bind fun ((v20, v21) : (Int × Int)) =>
         if 0 ≤ w64 (v11 + v18) ∧ w64 (v11 + v18) < 8 then
           if 0 + Int.toNat (w64 (v11 + v18)) * 1 < 8 then
            ([T.p (V.int .u64 (getD v10 0 0)), T.p (V.int .u64 (getD v10 1 0)), T.p (V.int .u64 (getD v10 2 0)), T.p (V.int .u64 (getD v10 3 0)), T.p (V.int .u64 (getD v10 4 0)), T.p (V.int .u64 (getD v10 5 0)), T.p (V.int .u64 (getD v10 6 0)), T.p (V.int .u64 (getD v10 7 0))][0 + Int.toNat (w64 (v11 + v18)) * 1]?).bind fun v22 =>
            (T.val? v22).bind fun v23 =>
             (V.int? .u64 v23).bind fun v24 =>
              if 0 ≤ v21 ∧ 0 ≤ v24 ∧ idI 0 ≤ 0 ∧ idI 0 ≤ 1 then
                if 0 ≤ adc v21 v24 0 ∧ 0 ≤ v13 ∧ idI 0 ≤ 0 ∧ idI 0 ≤ 1 then
                 if 0 ≤ w64 (v11 + v18) ∧ w64 (v11 + v18) < 8 then
                  if 0 + Int.toNat (w64 (v11 + v18)) * 1 < 8 then
                   if 0 + Int.toNat (w64 (v11 + v18)) * 1 < 8 then
                    ((((elemsS.T.pures (List.take 8 (List.set [T.p (V.int .u64 (getD v10 0 0)), T.p (V.int .u64 (getD v10 1 0)), T.p (V.int .u64 (getD v10 2 0)), T.p (V.int .u64 (getD v10 3 0)), T.p (V.int .u64 (getD v10 4 0)), T.p (V.int .u64 (getD v10 5 0)), T.p (V.int .u64 (getD v10 6 0)), T.p (V.int .u64 (getD v10 7 0))] (0 + Int.toNat (w64 (v11 + v18)) * 1) (T.p (V.int .u64 (adc (adc v21 v24 0) v13 0)))))).bind fun v25 =>
                       (intsOf .u64 8 v25).bind fun v26 =>
                        some ((v26, List.drop 8 (List.set [T.p (V.int .u64 (getD v10 0 0)), T.p (V.int .u64 (getD v10 1 0)), T.p (V.int .u64 (getD v10 2 0)), T.p (V.int .u64 (getD v10 3 0)), T.p (V.int .u64 (getD v10 4 0)), T.p (V.int .u64 (getD v10 5 0)), T.p (V.int .u64 (getD v10 6 0)), T.p (V.int .u64 (getD v10 7 0))] (0 + Int.toNat (w64 (v11 + v18)) * 1) (T.p (V.int .u64 (adc (adc v21 v24 0) v13 0)))))) : Option ((List Int) × (List T))).bind fun (v27, v28) =>
                      match v28 with
                       | [] =>
                        some (v27)
                       | v29 :: v30 =>
                        none : Option (List Int)).bind fun v31 =>
                     some ((v31, v11, v12, wu64 (wu64 (v20 + adcC v21 v24 0) + adcC (adc v21 v24 0) v13 0), (v14, v15, v16, v17), w64 (v18 + 1))) : Option ((List Int) × (Int × (Int × (Int × ((Int × (Int × (Int × Int))) × Int)))))).bind fun (v32, v33, v34, v35, (v36, v37, v38, v39), v40) =>
                    some (.inl ((v32, v33, v34, v35, (v36, v37, v38, v39), v40)))
                   else
                    none
                  else
                   none
                 else
                  none
                else
                 none
               else
                none
           else
            none
          else
           none
       else
        none
      else
       (if 0 ≤ w64 (v11 + 4) ∧ w64 (v11 + 4) < 8 then
         if 0 + Int.toNat (w64 (v11 + 4)) * 1 < 8 then
          if 0 + Int.toNat (w64 (v11 + 4)) * 1 < 8 then
           (((((elemsS.T.pures (List.take 8 (List.set [T.p (V.int .u64 (getD v10 0 0)), T.p (V.int .u64 (getD v10 1 0)), T.p (V.int .u64 (getD v10 2 0)), T.p (V.int .u64 (getD v10 3 0)), T.p (V.int .u64 (getD v10 4 0)), T.p (V.int .u64 (getD v10 5 0)), T.p (V.int .u64 (getD v10 6 0)), T.p (V.int .u64 (getD v10 7 0))] (0 + Int.toNat (w64 (v11 + 4)) * 1) (T.p (V.int .u64 v13))))).bind fun v41 =>
               (intsOf .u64 8 v41).bind fun v42 =>
                some ((v42, List.drop 8 (List.set [T.p (V.int .u64 (getD v10 0 0)), T.p (V.int .u64 (getD v10 1 0)), T.p (V.int .u64 (getD v10 2 0)), T.p (V.int .u64 (getD v10 3 0)), T.p (V.int .u64 (getD v10 4 0)), T.p (V.int .u64 (getD v10 5 0)), T.p (V.int .u64 (getD v10 6 0)), T.p (V.int .u64 (getD v10 7 0))] (0 + Int.toNat (w64 (v11 + 4)) * 1) (T.p (V.int .u64 v13))))) : Option ((List Int) × (List T))).bind fun (v43, v44) =>
              match v44 with
               | [] =>
                some (v43)
               | v45 :: v46 =>
                none : Option (List Int)).bind fun v47 =>
             some ((v47, (v4, v5, v6, v7), w64 (v8 + 1))) : Option ((List Int) × ((Int × (Int × (Int × Int))) × Int))).bind fun (v48, (v49, v50, v51, v52), v53) =>
            some (([getD v2 0 0, getD v2 1 0, getD v2 2 0, getD v2 3 0], v48, (v49, v50, v51, v52), v53)) : Option ((List Int) × ((List Int) × ((Int × (Int × (Int × Int))) × Int)))).bind fun (v54, v55, (v56, v57, v58, v59), v60) =>
           some (.inl ((v54, v55, (v56, v57, v58, v59), v60)))
          else
           none
         else
          none
        else
         none : Option (((List Int) × ((List Int) × ((Int × (Int × (Int × Int))) × Int))) ⊕ ((List Int) × (List Int)))).bind fun v61 =>
       some (.inr (v61))) ((fitI v3 0 8, v8, v9, 0, (getD [getD v2 0 0, getD v2 1 0, getD v2 2 0, getD v2 3 0] 0 0, getD [getD v2 0 0, getD v2 1 0, getD v2 2 0, getD v2 3 0] 1 0, getD [getD v2 0 0, getD v2 1 0, getD v2 2 0, getD v2 3 0] 2 0, getD [getD v2 0 0, getD v2 1 0, getD v2 2 0, getD v2 3 0] 3 0), 0))
   else
    none
  else
   some (.inr (([getD [getD v3 0 0, getD v3 1 0, getD v3 2 0, getD v3 3 0] 0 0, getD [getD v3 0 0, getD v3 1 0, getD v3 2 0, getD v3 3 0] 1 0, getD [getD v3 0 0, getD v3 1 0, getD v3 2 0, getD v3 3 0] 2 0, getD [getD v3 0 0, getD v3 1 0, getD v3 2 0, getD v3 3 0] 3 0], [getD (fitI v3 4 4) 0 0, getD (fitI v3 4 4) 1 0, getD (fitI v3 4 4) 2 0, getD (fitI v3 4 4) 3 0])))) (([getD v1 0 0, getD v1 1 0, getD v1 2 0, getD v1 3 0], rep 8 0, (getD [getD v0 0 0, getD v0 1 0, getD v0 2 0, getD v0 3 0] 0 0, getD [getD v0 0 0, getD v0 1 0, getD v0 2 0, getD v0 3 0] 1 0, getD [getD v0 0 0, getD v0 1 0, getD v0 2 0, getD v0 3 0] 2 0, getD [getD v0 0 0, getD v0 1 0, getD v0 2 0, getD v0 3 0] 3 0), 0))
noncomputable def fn_field_product : Fn := ⟨117, [.v (.st [.arr .u64 4]), .v (.st [.arr .u64 4])], .pure (.tup [.t (.v (.st [.arr .u64 4])), .t (.v (.st [.arr .u64 4]))]) 2, F_field_product⟩
theorem t_field_product : GoodAt Try.prog HH HSP 2 fn_field_product := goodAt_of (ho := HO) (l := [fn_math_bits_Mul64]) rfl (hl1 (t_math_bits_Mul64.up (by decide)) hl0) fun x => by kernel_rfl
noncomputable def F_field_Mul : Ps [.v (.st [.arr .u64 4]), .v (.st [.arr .u64 4])] → Option (Rc.I (.pure (.one (.t (.v (.st [.arr .u64 4])))) 2)) := fun ((v0, v1) : ((List Int) × (List Int))) =>
 (F_field_product ([getD [getD v0 0 0, getD v0 1 0, getD v0 2 0, getD v0 3 0] 0 0, getD [getD v0 0 0, getD v0 1 0, getD v0 2 0, getD v0 3 0] 1 0, getD [getD v0 0 0, getD v0 1 0, getD v0 2 0, getD v0 3 0] 2 0, getD [getD v0 0 0, getD v0 1 0, getD v0 2 0, getD v0 3 0] 3 0], [getD [getD v1 0 0, getD v1 1 0, getD v1 2 0, getD v1 3 0] 0 0, getD [getD v1 0 0, getD v1 1 0, getD v1 2 0, getD v1 3 0] 1 0, getD [getD v1 0 0, getD v1 1 0, getD v1 2 0, getD v1 3 0] 2 0, getD [getD v1 0 0, getD v1 1 0, getD v1 2 0, getD v1 3 0] 3 0]) : Option ((List Int) × (List Int))).bind fun ((v2, v3) : ((List Int) × (List Int))) =>
 (F_field_times38 [getD [getD v3 0 0, getD v3 1 0, getD v3 2 0, getD v3 3 0] 0 0, getD [getD v3 0 0, getD v3 1 0, getD v3 2 0, getD v3 3 0] 1 0, getD [getD v3 0 0, getD v3 1 0, getD v3 2 0, getD v3 3 0] 2 0, getD [getD v3 0 0, getD v3 1 0, getD v3 2 0, getD v3 3 0] 3 0] : Option ((List Int) × Int)).bind fun ((v4, v5) : ((List Int) × Int)) =>
  (F_field_plus ([getD [getD v2 0 0, getD v2 1 0, getD v2 2 0, getD v2 3 0] 0 0, getD [getD v2 0 0, getD v2 1 0, getD v2 2 0, getD v2 3 0] 1 0, getD [getD v2 0 0, getD v2 1 0, getD v2 2 0, getD v2 3 0] 2 0, getD [getD v2 0 0, getD v2 1 0, getD v2 2 0, getD v2 3 0] 3 0], [getD [getD v4 0 0, getD v4 1 0, getD v4 2 0, getD v4 3 0] 0 0, getD [getD v4 0 0, getD v4 1 0, getD v4 2 0, getD v4 3 0] 1 0, getD [getD v4 0 0, getD v4 1 0, getD v4 2 0, getD v4 3 0] 2 0, getD [getD v4 0 0, getD v4 1 0, getD v4 2 0, getD v4 3 0] 3 0]) : Option ((List Int) × Int)).bind fun ((v6, v7) : ((List Int) × Int)) =>
   (F_field_plus ([getD [getD v6 0 0, getD v6 1 0, getD v6 2 0, getD v6 3 0] 0 0, getD [getD v6 0 0, getD v6 1 0, getD v6 2 0, getD v6 3 0] 1 0, getD [getD v6 0 0, getD v6 1 0, getD v6 2 0, getD v6 3 0] 2 0, getD [getD v6 0 0, getD v6 1 0, getD v6 2 0, getD v6 3 0] 3 0], [wu64 (38 * wu64 (v5 + v7)), 0, 0, 0]) : Option ((List Int) × Int)).bind fun ((v8, v9) : ((List Int) × Int)) =>
    (F_field_plus ([getD [getD v8 0 0, getD v8 1 0, getD v8 2 0, getD v8 3 0] 0 0, getD [getD v8 0 0, getD v8 1 0, getD v8 2 0, getD v8 3 0] 1 0, getD [getD v8 0 0, getD v8 1 0, getD v8 2 0, getD v8 3 0] 2 0, getD [getD v8 0 0, getD v8 1 0, getD v8 2 0, getD v8 3 0] 3 0], [wu64 (38 * v9), 0, 0, 0]) : Option ((List Int) × Int)).bind fun ((v10, v11) : ((List Int) × Int)) =>
     (F_field_Reduce [getD [getD v10 0 0, getD v10 1 0, getD v10 2 0, getD v10 3 0] 0 0, getD [getD v10 0 0, getD v10 1 0, getD v10 2 0, getD v10 3 0] 1 0, getD [getD v10 0 0, getD v10 1 0, getD v10 2 0, getD v10 3 0] 2 0, getD [getD v10 0 0, getD v10 1 0, getD v10 2 0, getD v10 3 0] 3 0] : Option (List Int)).bind fun (v12 : (List Int)) =>
      some ([getD v12 0 0, getD v12 1 0, getD v12 2 0, getD v12 3 0])
noncomputable def fn_field_Mul : Fn := ⟨81, [.v (.st [.arr .u64 4]), .v (.st [.arr .u64 4])], .pure (.one (.t (.v (.st [.arr .u64 4])))) 2, F_field_Mul⟩
theorem t_field_Mul : GoodAt Try.prog HH HSP 3 fn_field_Mul := goodAt_of (ho := HO) (l := [fn_field_product, fn_field_times38, fn_field_plus, fn_field_Reduce]) rfl (hl1 (t_field_product.up (by decide)) (hl1 (t_field_times38.up (by decide)) (hl1 (t_field_plus.up (by decide)) (hl1 (t_field_Reduce.up (by decide)) hl0)))) fun x => by kernel_rfl
noncomputable def F_field_isSquareOf : Ps [.v (.st [.arr .u64 4]), .v (.st [.arr .u64 4])] → Option (Rc.I (.pure (.one (.t (.v .bool))) 2)) := fun ((v0, v1) : ((List Int) × (List Int))) =>
 (F_field_Mul ([getD [getD v0 0 0, getD v0 1 0, getD v0 2 0, getD v0 3 0] 0 0, getD [getD v0 0 0, getD v0 1 0, getD v0 2 0, getD v0 3 0] 1 0, getD [getD v0 0 0, getD v0 1 0, getD v0 2 0, getD v0 3 0] 2 0, getD [getD v0 0 0, getD v0 1 0, getD v0 2 0, getD v0 3 0] 3 0], [getD [getD v0 0 0, getD v0 1 0, getD v0 2 0, getD v0 3 0] 0 0, getD [getD v0 0 0, getD v0 1 0, getD v0 2 0, getD v0 3 0] 1 0, getD [getD v0 0 0, getD v0 1 0, getD v0 2 0, getD v0 3 0] 2 0, getD [getD v0 0 0, getD v0 1 0, getD v0 2 0, getD v0 3 0] 3 0]) : Option (List Int)).bind fun (v2 : (List Int)) =>
 (F_field_Reduce [getD [getD v1 0 0, getD v1 1 0, getD v1 2 0, getD v1 3 0] 0 0, getD [getD v1 0 0, getD v1 1 0, getD v1 2 0, getD v1 3 0] 1 0, getD [getD v1 0 0, getD v1 1 0, getD v1 2 0, getD v1 3 0] 2 0, getD [getD v1 0 0, getD v1 1 0, getD v1 2 0, getD v1 3 0] 3 0] : Option (List Int)).bind fun (v3 : (List Int)) =>
  some ([getD v2 0 0, getD v2 1 0, getD v2 2 0, getD v2 3 0] == [getD v3 0 0, getD v3 1 0, getD v3 2 0, getD v3 3 0])
noncomputable def fn_field_isSquareOf : Fn := ⟨120, [.v (.st [.arr .u64 4]), .v (.st [.arr .u64 4])], .pure (.one (.t (.v .bool))) 2, F_field_isSquareOf⟩
theorem t_field_isSquareOf : GoodAt Try.prog HH HSP 4 fn_field_isSquareOf := goodAt_of (ho := HO) (l := [fn_field_Mul, fn_field_Reduce]) rfl (hl1 (t_field_Mul.up (by decide)) (hl1 (t_field_Reduce.up (by decide)) hl0)) fun x => by kernel_rfl
noncomputable def F_field_Pow : Ps [.v (.st [.arr .u64 4]), .v (.st [.arr .u64 4])] → Option (Rc.I (.pure (.one (.t (.v (.st [.arr .u64 4])))) 2)) := fun ((v0, v1) : ((List Int) × (List Int))) =>
 (F_field_From 1 : Option (List Int)).bind fun (v2 : (List Int)) =>
 loopO (σ := ((List Int) × ((List Int) × ((Int × (Int × (Int × Int))) × Int)))) (R := (List Int)) (fun (v3, v4, (v5, v6, v7, v8), v9) =>
   if decide (v9 < 4) = true then
    if 0 ≤ v9 ∧ v9 < 4 then
     ([v5, v6, v7, v8][Int.toNat v9]?).bind fun v10 =>
     loopO (σ := ((List Int) × ((List Int) × (Int × Int)))) (R := (((List Int) × ((List Int) × ((Int × (Int × (Int × Int))) × Int))) ⊕ (List Int))) (fun (v11, v12, v13, v14) =>
       if decide (v14 < 64) = true then
        (if (wordAnd .u64 v13 1 != 0) = true then
          (F_field_Mul ([getD [getD v12 0 0, getD v12 1 0, getD v12 2 0, getD v12 3 0] 0 0, getD [getD v12 0 0, getD v12 1 0, getD v12 2 0, getD v12 3 0] 1 0, getD [getD v12 0 0, getD v12 1 0, getD v12 2 0, getD v12 3 0] 2 0, getD [getD v12 0 0, getD v12 1 0, getD v12 2 0, getD v12 3 0] 3 0], [getD [getD v11 0 0, getD v11 1 0, getD v11 2 0, getD v11 3 0] 0 0, getD [getD v11 0 0, getD v11 1 0, getD v11 2 0, getD v11 3 0] 1 0, getD [getD v11 0 0, getD v11 1 0, getD v11 2 0, getD v11 3 0] 2 0, getD [getD v11 0 0, getD v11 1 0, getD v11 2 0, getD v11 3 0] 3 0]) : Option (List Int)).bind fun (v15 : (List Int)) =>
          some (.inl (([getD v11 0 0, getD v11 1 0, getD v11 2 0, getD v11 3 0], [getD v15 0 0, getD v15 1 0, getD v15 2 0, getD v15 3 0])))
         else
          some (.inl (([getD v11 0 0, getD v11 1 0, getD v11 2 0, getD v11 3 0], [getD v12 0 0, getD v12 1 0, getD v12 2 0, getD v12 3 0]))) : Option (((List Int) × (List Int)) ⊕ (((List Int) × ((List Int) × (Int × Int))) ⊕ (((List Int) × ((List Int) × ((Int × (Int × (Int × Int))) × Int))) ⊕ (List Int))))).bind fun v16 =>
        match v16 with
         | .inl (v17, v18) =>
          (F_field_Mul ([getD [getD v17 0 0, getD v17 1 0, getD v17 2 0, getD v17 3 0] 0 0, getD [getD v17 0 0, getD v17 1 0, getD v17 2 0, getD v17 3 0] 1 0, getD [getD v17 0 0, getD v17 1 0, getD v17 2 0, getD v17 3 0] 2 0, getD [getD v17 0 0, getD v17 1 0, getD v17 2 0, getD v17 3 0] 3 0], [getD [getD v17 0 0, getD v17 1 0, getD v17 2 0, getD v17 3 0] 0 0, getD [getD v17 0 0, getD v17 1 0, getD v17 2 0, getD v17 3 0] 1 0, getD [getD v17 0 0, getD v17 1 0, getD v17 2 0, getD v17 3 0] 2 0, getD [getD v17 0 0, getD v17 1 0, getD v17 2 0, getD v17 3 0] 3 0]) : Option (List Int)).bind fun (v19 : (List Int)) =>
          some (.inl (([getD v19 0 0, getD v19 1 0, getD v19 2 0, getD v19 3 0], [getD v18 0 0, getD v18 1 0, getD v18 2 0, getD v18 3 0], wordShr .u64 v13 1, w64 (v14 + 1))))
         | .inr v20 =>
          some (v20)
       else
        some (.inr (Sum.inl ([getD v11 0 0, getD v11 1 0, getD v11 2 0, getD v11 3 0], [getD v12 0 0, getD v12 1 0, getD v12 2 0, getD v12 3 0], (v5, v6, v7, v8), w64 (v9 + 1))))) (([getD v3 0 0, getD v3 1 0, getD v3 2 0, getD v3 3 0], [getD v4 0 0, getD v4 1 0, getD v4 2 0, getD v4 3 0], v10, 0))
    else
     none
   else
    some (.inr ([getD [getD v4 0 0, getD v4 1 0, getD v4 2 0, getD v4 3 0] 0 0, getD [getD v4 0 0, getD v4 1 0, getD v4 2 0, getD v4 3 0] 1 0, getD [getD v4 0 0, getD v4 1 0, getD v4 2 0, getD v4 3 0] 2 0, getD [getD v4 0 0, getD v4 1 0, getD v4 2 0, getD v4 3 0] 3 0]))) (([getD v0 0 0, getD v0 1 0, getD v0 2 0, getD v0 3 0], [getD v2 0 0, getD v2 1 0, getD v2 2 0, getD v2 3 0], (getD [getD v1 0 0, getD v1 1 0, getD v1 2 0, getD v1 3 0] 0 0, getD [getD v1 0 0, getD v1 1 0, getD v1 2 0, getD v1 3 0] 1 0, getD [getD v1 0 0, getD v1 1 0, getD v1 2 0, getD v1 3 0] 2 0, getD [getD v1 0 0, getD v1 1 0, getD v1 2 0, getD v1 3 0] 3 0), 0))
noncomputable def fn_field_Pow : Fn := ⟨119, [.v (.st [.arr .u64 4]), .v (.st [.arr .u64 4])], .pure (.one (.t (.v (.st [.arr .u64 4])))) 2, F_field_Pow⟩
theorem t_field_Pow : GoodAt Try.prog HH HSP 4 fn_field_Pow := goodAt_of (ho := HO) (l := [fn_field_From, fn_field_Mul]) rfl (hl1 (t_field_From.up (by decide)) (hl1 (t_field_Mul.up (by decide)) hl0)) fun x => by kernel_rfl
noncomputable def F_field_Root : Ps [.v (.st [.arr .u64 4])] → Option (Rc.I (.pure (.tup [.t (.v (.st [.arr .u64 4])), .t (.v .bool)]) 1)) := fun (v0 : (List Int)) =>
 (F_field_Pow ([getD [getD v0 0 0, getD v0 1 0, getD v0 2 0, getD v0 3 0] 0 0, getD [getD v0 0 0, getD v0 1 0, getD v0 2 0, getD v0 3 0] 1 0, getD [getD v0 0 0, getD v0 1 0, getD v0 2 0, getD v0 3 0] 2 0, getD [getD v0 0 0, getD v0 1 0, getD v0 2 0, getD v0 3 0] 3 0], [getD [18446744073709551614, 18446744073709551615, 18446744073709551615, 1152921504606846975] 0 0, getD [18446744073709551614, 18446744073709551615, 18446744073709551615, 1152921504606846975] 1 0, getD [18446744073709551614, 18446744073709551615, 18446744073709551615, 1152921504606846975] 2 0, getD [18446744073709551614, 18446744073709551615, 18446744073709551615, 1152921504606846975] 3 0]) : Option (List Int)).bind fun (v1 : (List Int)) =>
 (F_field_isSquareOf ([getD [getD v1 0 0, getD v1 1 0, getD v1 2 0, getD v1 3 0] 0 0, getD [getD v1 0 0, getD v1 1 0, getD v1 2 0, getD v1 3 0] 1 0, getD [getD v1 0 0, getD v1 1 0, getD v1 2 0, getD v1 3 0] 2 0, getD [getD v1 0 0, getD v1 1 0, getD v1 2 0, getD v1 3 0] 3 0], [getD [getD v0 0 0, getD v0 1 0, getD v0 2 0, getD v0 3 0] 0 0, getD [getD v0 0 0, getD v0 1 0, getD v0 2 0, getD v0 3 0] 1 0, getD [getD v0 0 0, getD v0 1 0, getD v0 2 0, getD v0 3 0] 2 0, getD [getD v0 0 0, getD v0 1 0, getD v0 2 0, getD v0 3 0] 3 0]) : Option Bool).bind fun (v2 : Bool) =>
  (if (!v2) = true then
     (F_field_From 2 : Option (List Int)).bind fun (v3 : (List Int)) =>
     (F_field_Pow ([getD v3 0 0, getD v3 1 0, getD v3 2 0, getD v3 3 0], [getD [18446744073709551611, 18446744073709551615, 18446744073709551615, 2305843009213693951] 0 0, getD [18446744073709551611, 18446744073709551615, 18446744073709551615, 2305843009213693951] 1 0, getD [18446744073709551611, 18446744073709551615, 18446744073709551615, 2305843009213693951] 2 0, getD [18446744073709551611, 18446744073709551615, 18446744073709551615, 2305843009213693951] 3 0]) : Option (List Int)).bind fun (v4 : (List Int)) =>
      (F_field_Mul ([getD [getD v1 0 0, getD v1 1 0, getD v1 2 0, getD v1 3 0] 0 0, getD [getD v1 0 0, getD v1 1 0, getD v1 2 0, getD v1 3 0] 1 0, getD [getD v1 0 0, getD v1 1 0, getD v1 2 0, getD v1 3 0] 2 0, getD [getD v1 0 0, getD v1 1 0, getD v1 2 0, getD v1 3 0] 3 0], [getD v4 0 0, getD v4 1 0, getD v4 2 0, getD v4 3 0]) : Option (List Int)).bind fun (v5 : (List Int)) =>
       some (.inl (([18446744073709551611, 18446744073709551615, 18446744073709551615, 2305843009213693951], [getD v5 0 0, getD v5 1 0, getD v5 2 0, getD v5 3 0])))
    else
     some (.inl (([18446744073709551611, 18446744073709551615, 18446744073709551615, 2305843009213693951], [getD v1 0 0, getD v1 1 0, getD v1 2 0, getD v1 3 0]))) : Option (((List Int) × (List Int)) ⊕ ((List Int) × Bool))).bind fun v6 =>
   match v6 with
    | .inl (v7, v8) =>
     (F_field_isSquareOf ([getD [getD v8 0 0, getD v8 1 0, getD v8 2 0, getD v8 3 0] 0 0, getD [getD v8 0 0, getD v8 1 0, getD v8 2 0, getD v8 3 0] 1 0, getD [getD v8 0 0, getD v8 1 0, getD v8 2 0, getD v8 3 0] 2 0, getD [getD v8 0 0, getD v8 1 0, getD v8 2 0, getD v8 3 0] 3 0], [getD [getD v0 0 0, getD v0 1 0, getD v0 2 0, getD v0 3 0] 0 0, getD [getD v0 0 0, getD v0 1 0, getD v0 2 0, getD v0 3 0] 1 0, getD [getD v0 0 0, getD v0 1 0, getD v0 2 0, getD v0 3 0] 2 0, getD [getD v0 0 0, getD v0 1 0, getD v0 2 0, getD v0 3 0] 3 0]) : Option Bool).bind fun (v9 : Bool) =>
     if (!v9) = true then
       some (([0, 0, 0, 0], false))
      else
       (if (wordAnd .u64 (getD v8 0 0) 1 != 0) = true then
         (F_field_Sub ([0, 0, 0, 0], [getD [getD v8 0 0, getD v8 1 0, getD v8 2 0, getD v8 3 0] 0 0, getD [getD v8 0 0, getD v8 1 0, getD v8 2 0, getD v8 3 0] 1 0, getD [getD v8 0 0, getD v8 1 0, getD v8 2 0, getD v8 3 0] 2 0, getD [getD v8 0 0, getD v8 1 0, getD v8 2 0, getD v8 3 0] 3 0]) : Option (List Int)).bind fun (v10 : (List Int)) =>
         some (.inl ([getD v10 0 0, getD v10 1 0, getD v10 2 0, getD v10 3 0]))
        else
         some (.inl ([getD v8 0 0, getD v8 1 0, getD v8 2 0, getD v8 3 0])) : Option ((List Int) ⊕ ((List Int) × Bool))).bind fun v11 =>
       match v11 with
        | .inl v12 =>
         some (([getD [getD v12 0 0, getD v12 1 0, getD v12 2 0, getD v12 3 0] 0 0, getD [getD v12 0 0, getD v12 1 0, getD v12 2 0, getD v12 3 0] 1 0, getD [getD v12 0 0, getD v12 1 0, getD v12 2 0, getD v12 3 0] 2 0, getD [getD v12 0 0, getD v12 1 0, getD v12 2 0, getD v12 3 0] 3 0], true))
        | .inr (v13, v14) =>
         some ((v13, v14))
    | .inr (v15, v16) =>
     some ((v15, v16))
noncomputable def fn_field_Root : Fn := ⟨83, [.v (.st [.arr .u64 4])], .pure (.tup [.t (.v (.st [.arr .u64 4])), .t (.v .bool)]) 1, F_field_Root⟩
theorem t_field_Root : GoodAt Try.prog HH HSP 5 fn_field_Root := goodAt_of (ho := HO) (l := [fn_field_Pow, fn_field_isSquareOf, fn_field_From, fn_field_Mul, fn_field_Sub]) rfl (hl1 (t_field_Pow.up (by decide)) (hl1 (t_field_isSquareOf.up (by decide)) (hl1 (t_field_From.up (by decide)) (hl1 (t_field_Mul.up (by decide)) (hl1 (t_field_Sub.up (by decide)) hl0))))) fun x => by kernel_rfl
noncomputable def F_field_Inv : Ps [.v (.st [.arr .u64 4])] → Option (Rc.I (.pure (.one (.t (.v (.st [.arr .u64 4])))) 1)) := fun (v0 : (List Int)) =>
 (F_field_prime PUnit.unit : Option (List Int)).bind fun (v1 : (List Int)) =>
 (F_field_From 2 : Option (List Int)).bind fun (v2 : (List Int)) =>
  (F_field_minus ([getD v1 0 0, getD v1 1 0, getD v1 2 0, getD v1 3 0], [getD v2 0 0, getD v2 1 0, getD v2 2 0, getD v2 3 0]) : Option ((List Int) × Int)).bind fun ((v3, v4) : ((List Int) × Int)) =>
   (F_field_Pow ([getD [getD v0 0 0, getD v0 1 0, getD v0 2 0, getD v0 3 0] 0 0, getD [getD v0 0 0, getD v0 1 0, getD v0 2 0, getD v0 3 0] 1 0, getD [getD v0 0 0, getD v0 1 0, getD v0 2 0, getD v0 3 0] 2 0, getD [getD v0 0 0, getD v0 1 0, getD v0 2 0, getD v0 3 0] 3 0], [getD [getD v3 0 0, getD v3 1 0, getD v3 2 0, getD v3 3 0] 0 0, getD [getD v3 0 0, getD v3 1 0, getD v3 2 0, getD v3 3 0] 1 0, getD [getD v3 0 0, getD v3 1 0, getD v3 2 0, getD v3 3 0] 2 0, getD [getD v3 0 0, getD v3 1 0, getD v3 2 0, getD v3 3 0] 3 0]) : Option (List Int)).bind fun (v5 : (List Int)) =>
    some ([getD v5 0 0, getD v5 1 0, getD v5 2 0, getD v5 3 0])
noncomputable def fn_field_Inv : Fn := ⟨84, [.v (.st [.arr .u64 4])], .pure (.one (.t (.v (.st [.arr .u64 4])))) 1, F_field_Inv⟩
theorem t_field_Inv : GoodAt Try.prog HH HSP 5 fn_field_Inv := goodAt_of (ho := HO) (l := [fn_field_prime, fn_field_From, fn_field_minus, fn_field_Pow]) rfl (hl1 (t_field_prime.up (by decide)) (hl1 (t_field_From.up (by decide)) (hl1 (t_field_minus.up (by decide)) (hl1 (t_field_Pow.up (by decide)) hl0)))) fun x => by kernel_rfl
noncomputable def F_field_Add : Ps [.v (.st [.arr .u64 4]), .v (.st [.arr .u64 4])] → Option (Rc.I (.pure (.one (.t (.v (.st [.arr .u64 4])))) 2)) := fun ((v0, v1) : ((List Int) × (List Int))) =>
 (F_field_Reduce [getD [getD v0 0 0, getD v0 1 0, getD v0 2 0, getD v0 3 0] 0 0, getD [getD v0 0 0, getD v0 1 0, getD v0 2 0, getD v0 3 0] 1 0, getD [getD v0 0 0, getD v0 1 0, getD v0 2 0, getD v0 3 0] 2 0, getD [getD v0 0 0, getD v0 1 0, getD v0 2 0, getD v0 3 0] 3 0] : Option (List Int)).bind fun (v2 : (List Int)) =>
 (F_field_Reduce [getD [getD v1 0 0, getD v1 1 0, getD v1 2 0, getD v1 3 0] 0 0, getD [getD v1 0 0, getD v1 1 0, getD v1 2 0, getD v1 3 0] 1 0, getD [getD v1 0 0, getD v1 1 0, getD v1 2 0, getD v1 3 0] 2 0, getD [getD v1 0 0, getD v1 1 0, getD v1 2 0, getD v1 3 0] 3 0] : Option (List Int)).bind fun (v3 : (List Int)) =>
  (F_field_plus ([getD v2 0 0, getD v2 1 0, getD v2 2 0, getD v2 3 0], [getD v3 0 0, getD v3 1 0, getD v3 2 0, getD v3 3 0]) : Option ((List Int) × Int)).bind fun ((v4, v5) : ((List Int) × Int)) =>
   (F_field_Reduce [getD [getD v4 0 0, getD v4 1 0, getD v4 2 0, getD v4 3 0] 0 0, getD [getD v4 0 0, getD v4 1 0, getD v4 2 0, getD v4 3 0] 1 0, getD [getD v4 0 0, getD v4 1 0, getD v4 2 0, getD v4 3 0] 2 0, getD [getD v4 0 0, getD v4 1 0, getD v4 2 0, getD v4 3 0] 3 0] : Option (List Int)).bind fun (v6 : (List Int)) =>
    some ([getD v6 0 0, getD v6 1 0, getD v6 2 0, getD v6 3 0])
noncomputable def fn_field_Add : Fn := ⟨80, [.v (.st [.arr .u64 4]), .v (.st [.arr .u64 4])], .pure (.one (.t (.v (.st [.arr .u64 4])))) 2, F_field_Add⟩
theorem t_field_Add : GoodAt Try.prog HH HSP 3 fn_field_Add := goodAt_of (ho := HO) (l := [fn_field_Reduce, fn_field_plus]) rfl (hl1 (t_field_Reduce.up (by decide)) (hl1 (t_field_plus.up (by decide)) hl0)) fun x => by kernel_rfl
noncomputable def F_edwards_number : Ps [] → Option (Rc.I (.pure (.one (.t (.v (.st [.arr .u64 4])))) 0)) := fun (v0 : Unit) =>
 some ([8496970652267935907, 31536524315187371, 10144147576115030168, 5909686906226998899])
noncomputable def fn_edwards_number : Fn := ⟨82, [], .pure (.one (.t (.v (.st [.arr .u64 4])))) 0, F_edwards_number⟩
theorem t_edwards_number : GoodAt Try.prog HH HSP 1 fn_edwards_number := goodAt_of (ho := HO) (l := []) rfl hl0 fun x => by kernel_rfl
noncomputable def F_edwards_square : Ps [.v (.st [.arr .u64 4])] → Option (Rc.I (.pure (.one (.t (.v (.st [.arr .u64 4])))) 1)) := fun (v0 : (List Int)) =>
 (F_field_Mul ([getD [getD v0 0 0, getD v0 1 0, getD v0 2 0, getD v0 3 0] 0 0, getD [getD v0 0 0, getD v0 1 0, getD v0 2 0, getD v0 3 0] 1 0, getD [getD v0 0 0, getD v0 1 0, getD v0 2 0, getD v0 3 0] 2 0, getD [getD v0 0 0, getD v0 1 0, getD v0 2 0, getD v0 3 0] 3 0], [getD [getD v0 0 0, getD v0 1 0, getD v0 2 0, getD v0 3 0] 0 0, getD [getD v0 0 0, getD v0 1 0, getD v0 2 0, getD v0 3 0] 1 0, getD [getD v0 0 0, getD v0 1 0, getD v0 2 0, getD v0 3 0] 2 0, getD [getD v0 0 0, getD v0 1 0, getD v0 2 0, getD v0 3 0] 3 0]) : Option (List Int)).bind fun (v1 : (List Int)) =>
 some ([getD v1 0 0, getD v1 1 0, getD v1 2 0, getD v1 3 0])
noncomputable def fn_edwards_square : Fn := ⟨77, [.v (.st [.arr .u64 4])], .pure (.one (.t (.v (.st [.arr .u64 4])))) 1, F_edwards_square⟩
theorem t_edwards_square : GoodAt Try.prog HH HSP 4 fn_edwards_square := goodAt_of (ho := HO) (l := [fn_field_Mul]) rfl (hl1 (t_field_Mul.up (by decide)) hl0) fun x => by kernel_rfl
noncomputable def F_field_Read : Ps [.v .agg] → Option (Rc.I (.pure (.tup [.t (.v (.st [.arr .u64 4])), .t (.v .bool)]) 1)) := fun (v0 : (List V)) =>
 if List.length v0 = 32 ∧ List.all v0 V.one = true then
  if 32 ≤ List.length (List.map T.p v0) ∧ idN 0 < 32 then
   (elemsS.T.pures (List.take 32 (List.drop 0 (List.map T.p v0)))).bind fun v1 =>
   loopO (σ := ((List Int) × ((List V) × Int))) (R := ((List Int) × Bool)) (fun (v2, v3, v4) =>
     if decide (v4 < 32) = true then
      if 0 ≤ v4 ∧ v4 < 32 then
       (v3[Int.toNat v4]?).bind fun v5 =>
       (V.int? .u8 v5).bind fun v6 =>
        if 0 ≤ w64 (Int.tdiv v4 8) ∧ w64 (Int.tdiv v4 8) < 4 then
          if 0 + Int.toNat (w64 (Int.tdiv v4 8)) * 1 < 4 then
           ([T.p (V.int .u64 (getD v2 0 0)), T.p (V.int .u64 (getD v2 1 0)), T.p (V.int .u64 (getD v2 2 0)), T.p (V.int .u64 (getD v2 3 0))][0 + Int.toNat (w64 (Int.tdiv v4 8)) * 1]?).bind fun v7 =>
           (T.val? v7).bind fun v8 =>
            (V.int? .u64 v8).bind fun v9 =>
             if w64 (8 * Int.tmod v4 8) < 0 then
               none
              else
               if 0 ≤ w64 (Int.tdiv v4 8) ∧ w64 (Int.tdiv v4 8) < 4 then
                if 0 + Int.toNat (w64 (Int.tdiv v4 8)) * 1 < 4 then
                 if 0 + Int.toNat (w64 (Int.tdiv v4 8)) * 1 < 4 then
                  ((((elemsS.T.pures (List.take 4 (List.set [T.p (V.int .u64 (getD v2 0 0)), T.p (V.int .u64 (getD v2 1 0)), T.p (V.int .u64 (getD v2 2 0)), T.p (V.int .u64 (getD v2 3 0))] (0 + Int.toNat (w64 (Int.tdiv v4 8)) * 1) (T.p (V.int .u64 (wordOr .u64 v9 (wordShl .u64 (wu64 v6) (w64 (8 * Int.tmod v4 8))))))))).bind fun v10 =>
                     (intsOf .u64 4 v10).bind fun v11 =>
                      some ((v11, List.drop 4 (List.set [T.p (V.int .u64 (getD v2 0 0)), T.p (V.int .u64 (getD v2 1 0)), T.p (V.int .u64 (getD v2 2 0)), T.p (V.int .u64 (getD v2 3 0))] (0 + Int.toNat (w64 (Int.tdiv v4 8)) * 1) (T.p (V.int .u64 (wordOr .u64 v9 (wordShl .u64 (wu64 v6) (w64 (8 * Int.tmod v4 8))))))))) : Option ((List Int) × (List T))).bind fun (v12, v13) =>
                    match v13 with
                     | [] =>
                      some (v12)
                     | v14 :: v15 =>
                      none : Option (List Int)).bind fun v16 =>
                   some ((v16, v3, w64 (v4 + 1))) : Option ((List Int) × ((List V) × Int))).bind fun (v17, v18, v19) =>
                  some (.inl ((v17, v18, v19)))
                 else
                  none
                else
                 none
               else
                none
          else
           none
         else
          none
      else
       none
     else
      ((F_field_prime PUnit.unit : Option (List Int)).bind fun (v20 : (List Int)) =>
       (F_field_minus ([getD [getD v2 0 0, getD v2 1 0, getD v2 2 0, getD v2 3 0] 0 0, getD [getD v2 0 0, getD v2 1 0, getD v2 2 0, getD v2 3 0] 1 0, getD [getD v2 0 0, getD v2 1 0, getD v2 2 0, getD v2 3 0] 2 0, getD [getD v2 0 0, getD v2 1 0, getD v2 2 0, getD v2 3 0] 3 0], [getD v20 0 0, getD v20 1 0, getD v20 2 0, getD v20 3 0]) : Option ((List Int) × Int)).bind fun ((v21, v22) : ((List Int) × Int)) =>
        if (v22 == 0) = true then
          some (([0, 0, 0, 0], false))
         else
          some (([getD [getD v2 0 0, getD v2 1 0, getD v2 2 0, getD v2 3 0] 0 0, getD [getD v2 0 0, getD v2 1 0, getD v2 2 0, getD v2 3 0] 1 0, getD [getD v2 0 0, getD v2 1 0, getD v2 2 0, getD v2 3 0] 2 0, getD [getD v2 0 0, getD v2 1 0, getD v2 2 0, getD v2 3 0] 3 0], true)) : Option ((List Int) × Bool)).bind fun (v23, v24) =>
      some (.inr ((v23, v24)))) (([0, 0, 0, 0], v1, 0))
  else
   none
 else
  none
noncomputable def fn_field_Read : Fn := ⟨75, [.v .agg], .pure (.tup [.t (.v (.st [.arr .u64 4])), .t (.v .bool)]) 1, F_field_Read⟩
theorem t_field_Read : GoodAt Try.prog HH HSP 2 fn_field_Read := goodAt_of (ho := HO) (l := [fn_field_prime, fn_field_minus]) rfl (hl1 (t_field_prime.up (by decide)) (hl1 (t_field_minus.up (by decide)) hl0)) fun x => by kernel_rfl
noncomputable def F_edwards_Unpack : Ps [.v .agg] → Option (Rc.I (.pure (.tup [.t (.v (.st rapi_Point)), .t (.v .bool)]) 1)) := fun (v0 : (List V)) =>
 if List.length v0 = 32 ∧ List.all v0 V.one = true then
  if 31 < List.length (List.map T.p v0) then
   ((List.map T.p v0)[31]?).bind fun v1 =>
   (T.val? v1).bind fun v2 =>
    (V.int? .u8 v2).bind fun v3 =>
     if 31 < List.length (List.map T.p v0) then
       ((List.map T.p v0)[31]?).bind fun v4 =>
       (T.val? v4).bind fun v5 =>
        (V.int? .u8 v5).bind fun v6 =>
         if 31 < List.length (List.map T.p v0) then
           if 31 < List.length (List.map T.p v0) then
            if 32 ≤ List.length (List.set (List.map T.p v0) 31 (T.p (V.int .u8 (wordAnd .u8 v6 127)))) ∧ idN 0 < 32 then
             (elemsS.T.pures (List.take 32 (List.drop 0 (List.set (List.map T.p v0) 31 (T.p (V.int .u8 (wordAnd .u8 v6 127))))))).bind fun v7 =>
             (F_field_Read v7 : Option ((List Int) × Bool)).bind fun ((v8, v9) : ((List Int) × Bool)) =>
              if (!v9) = true then
                (F_edwards_Zero PUnit.unit : Option ((List Int) × (List Int))).bind fun ((v10, v11) : ((List Int) × (List Int))) =>
                some ((([getD v10 0 0, getD v10 1 0, getD v10 2 0, getD v10 3 0], [getD v11 0 0, getD v11 1 0, getD v11 2 0, getD v11 3 0]), false))
               else
                (F_edwards_square [getD [getD v8 0 0, getD v8 1 0, getD v8 2 0, getD v8 3 0] 0 0, getD [getD v8 0 0, getD v8 1 0, getD v8 2 0, getD v8 3 0] 1 0, getD [getD v8 0 0, getD v8 1 0, getD v8 2 0, getD v8 3 0] 2 0, getD [getD v8 0 0, getD v8 1 0, getD v8 2 0, getD v8 3 0] 3 0] : Option (List Int)).bind fun (v12 : (List Int)) =>
                (F_edwards_one PUnit.unit : Option (List Int)).bind fun (v13 : (List Int)) =>
                 (F_field_Sub ([getD [getD v12 0 0, getD v12 1 0, getD v12 2 0, getD v12 3 0] 0 0, getD [getD v12 0 0, getD v12 1 0, getD v12 2 0, getD v12 3 0] 1 0, getD [getD v12 0 0, getD v12 1 0, getD v12 2 0, getD v12 3 0] 2 0, getD [getD v12 0 0, getD v12 1 0, getD v12 2 0, getD v12 3 0] 3 0], [getD v13 0 0, getD v13 1 0, getD v13 2 0, getD v13 3 0]) : Option (List Int)).bind fun (v14 : (List Int)) =>
                  (F_edwards_number PUnit.unit : Option (List Int)).bind fun (v15 : (List Int)) =>
                   (F_field_Mul ([getD v15 0 0, getD v15 1 0, getD v15 2 0, getD v15 3 0], [getD [getD v12 0 0, getD v12 1 0, getD v12 2 0, getD v12 3 0] 0 0, getD [getD v12 0 0, getD v12 1 0, getD v12 2 0, getD v12 3 0] 1 0, getD [getD v12 0 0, getD v12 1 0, getD v12 2 0, getD v12 3 0] 2 0, getD [getD v12 0 0, getD v12 1 0, getD v12 2 0, getD v12 3 0] 3 0]) : Option (List Int)).bind fun (v16 : (List Int)) =>
                    (F_edwards_one PUnit.unit : Option (List Int)).bind fun (v17 : (List Int)) =>
                     (F_field_Add ([getD v16 0 0, getD v16 1 0, getD v16 2 0, getD v16 3 0], [getD v17 0 0, getD v17 1 0, getD v17 2 0, getD v17 3 0]) : Option (List Int)).bind fun (v18 : (List Int)) =>
                      (F_field_Inv [getD [getD v18 0 0, getD v18 1 0, getD v18 2 0, getD v18 3 0] 0 0, getD [getD v18 0 0, getD v18 1 0, getD v18 2 0, getD v18 3 0] 1 0, getD [getD v18 0 0, getD v18 1 0, getD v18 2 0, getD v18 3 0] 2 0, getD [getD v18 0 0, getD v18 1 0, getD v18 2 0, getD v18 3 0] 3 0] : Option (List Int)).bind fun (v19 : (List Int)) =>
                       (F_field_Mul ([getD [getD v14 0 0, getD v14 1 0, getD v14 2 0, getD v14 3 0] 0 0, getD [getD v14 0 0, getD v14 1 0, getD v14 2 0, getD v14 3 0] 1 0, getD [getD v14 0 0, getD v14 1 0, getD v14 2 0, getD v14 3 0] 2 0, getD [getD v14 0 0, getD v14 1 0, getD v14 2 0, getD v14 3 0] 3 0], [getD v19 0 0, getD v19 1 0, getD v19 2 0, getD v19 3 0]) : Option (List Int)).bind fun (v20 : (List Int)) =>
                        (F_field_Root [getD v20 0 0, getD v20 1 0, getD v20 2 0, getD v20 3 0] : Option ((List Int) × Bool)).bind fun ((v21, v22) : ((List Int) × Bool)) =>
                         (if (!v22) = false then
                            if (wordAnd .u8 v3 128 != 0) = true then
                             some ([getD [getD v21 0 0, getD v21 1 0, getD v21 2 0, getD v21 3 0] 0 0, getD [getD v21 0 0, getD v21 1 0, getD v21 2 0, getD v21 3 0] 1 0, getD [getD v21 0 0, getD v21 1 0, getD v21 2 0, getD v21 3 0] 2 0, getD [getD v21 0 0, getD v21 1 0, getD v21 2 0, getD v21 3 0] 3 0] == [0, 0, 0, 0])
                            else
                             some (false)
                           else
                            some (true) : Option Bool).bind fun v23 =>
                          if v23 = true then
                            (F_edwards_Zero PUnit.unit : Option ((List Int) × (List Int))).bind fun ((v24, v25) : ((List Int) × (List Int))) =>
                            some ((([getD v24 0 0, getD v24 1 0, getD v24 2 0, getD v24 3 0], [getD v25 0 0, getD v25 1 0, getD v25 2 0, getD v25 3 0]), false))
                           else
                            (if (wordAnd .u8 v3 128 != 0) = true then
                              (F_field_Sub ([0, 0, 0, 0], [getD [getD v21 0 0, getD v21 1 0, getD v21 2 0, getD v21 3 0] 0 0, getD [getD v21 0 0, getD v21 1 0, getD v21 2 0, getD v21 3 0] 1 0, getD [getD v21 0 0, getD v21 1 0, getD v21 2 0, getD v21 3 0] 2 0, getD [getD v21 0 0, getD v21 1 0, getD v21 2 0, getD v21 3 0] 3 0]) : Option (List Int)).bind fun (v26 : (List Int)) =>
                              some (.inl ([getD v26 0 0, getD v26 1 0, getD v26 2 0, getD v26 3 0]))
                             else
                              some (.inl ([getD v21 0 0, getD v21 1 0, getD v21 2 0, getD v21 3 0])) : Option ((List Int) ⊕ (((List Int) × (List Int)) × Bool))).bind fun v27 =>
                            match v27 with
                             | .inl v28 =>
                              some ((([getD [getD v28 0 0, getD v28 1 0, getD v28 2 0, getD v28 3 0] 0 0, getD [getD v28 0 0, getD v28 1 0, getD v28 2 0, getD v28 3 0] 1 0, getD [getD v28 0 0, getD v28 1 0, getD v28 2 0, getD v28 3 0] 2 0, getD [getD v28 0 0, getD v28 1 0, getD v28 2 0, getD v28 3 0] 3 0], [getD [getD v8 0 0, getD v8 1 0, getD v8 2 0, getD v8 3 0] 0 0, getD [getD v8 0 0, getD v8 1 0, getD v8 2 0, getD v8 3 0] 1 0, getD [getD v8 0 0, getD v8 1 0, getD v8 2 0, getD v8 3 0] 2 0, getD [getD v8 0 0, getD v8 1 0, getD v8 2 0, getD v8 3 0] 3 0]), true))
                             | .inr ((v29, v30), v31) =>
                              some (((v29, v30), v31))
            else
             none
           else
            none
          else
           none
      else
       none
  else
   none
 else
  none
noncomputable def fn_edwards_Unpack : Fn := ⟨55, [.v .agg], .pure (.tup [.t (.v (.st rapi_Point)), .t (.v .bool)]) 1, F_edwards_Unpack⟩
theorem t_edwards_Unpack : GoodAt Try.prog HH HSP 6 fn_edwards_Unpack := goodAt_of (ho := HO) (l := [fn_field_Read, fn_edwards_Zero, fn_edwards_square, fn_edwards_one, fn_field_Sub, fn_edwards_number, fn_field_Mul, fn_field_Add, fn_field_Inv, fn_field_Root]) rfl (hl1 (t_field_Read.up (by decide)) (hl1 (t_edwards_Zero.up (by decide)) (hl1 (t_edwards_square.up (by decide)) (hl1 (t_edwards_one.up (by decide)) (hl1 (t_field_Sub.up (by decide)) (hl1 (t_edwards_number.up (by decide)) (hl1 (t_field_Mul.up (by decide)) (hl1 (t_field_Add.up (by decide)) (hl1 (t_field_Inv.up (by decide)) (hl1 (t_field_Root.up (by decide)) hl0)))))))))) fun x => by kernel_rfl
noncomputable def F_nat_Bit : Ps [.v (.lst true 1), .v (.int .i64)] → Option (Rc.I (.pure (.one (.t (.v (.int .i64)))) 2)) := fun ((v0, v1) : ((List V) × Int)) =>
 (if decide (v1 < 0) = false then
   some (decide (w64 (Int.tdiv v1 32) ≥ len v0))
  else
   some (true) : Option Bool).bind fun v2 =>
 if v2 = true then
   some (0)
  else
   if 0 ≤ w64 (Int.tdiv v1 32) then
    (v0[Int.toNat (w64 (Int.tdiv v1 32))]?).bind fun v3 =>
    (V.int? .u32 v3).bind fun v4 =>
     if Int.tmod v1 32 < 0 then
       none
      else
       some (w64 (wordAnd .u32 (wordShr .u32 v4 (Int.tmod v1 32)) 1))
   else
    none
noncomputable def fn_nat_Bit : Fn := ⟨111, [.v (.lst true 1), .v (.int .i64)], .pure (.one (.t (.v (.int .i64)))) 2, F_nat_Bit⟩
theorem t_nat_Bit : GoodAt Try.prog HH HSP 1 fn_nat_Bit := goodAt_of (ho := HO) (l := []) rfl hl0 fun x => by kernel_rfl
noncomputable def F_rsa_isOdd : Ps [.v (.lst true 1)] → Option (Rc.I (.pure (.one (.t (.v .bool))) 1)) := fun (v0 : (List V)) =>
 (F_nat_Bit (v0, 0) : Option Int).bind fun (v1 : Int) =>
 some (v1 != 0)
noncomputable def fn_rsa_isOdd : Fn := ⟨74, [.v (.lst true 1)], .pure (.one (.t (.v .bool))) 1, F_rsa_isOdd⟩
theorem t_rsa_isOdd : GoodAt Try.prog HH HSP 2 fn_rsa_isOdd := goodAt_of (ho := HO) (l := [fn_nat_Bit]) rfl (hl1 (t_nat_Bit.up (by decide)) hl0) fun x => by kernel_rfl
noncomputable def F_rsa_Check : Ps [.v (.lst false 1), .v (.lst false 1)] → Option (Rc.I (.pure (.one (.t (.v (.int .i64)))) 2)) := fun ((v0, v1) : ((List V) × (List V))) =>
 (F_nat_Bits v0 : Option Int).bind fun (v2 : Int) =>
 if decide (v2 < 2048) = true then
   some (10)
  else
   if decide (v2 > 8192) = true then
    some (4)
   else
    ((F_rsa_isOdd v0 : Option Bool).bind fun (v3 : Bool) =>
     if (!v3) = false then
       (F_rsa_isOdd v1 : Option Bool).bind fun (v4 : Bool) =>
       if (!v4) = false then
         (F_nat_Bits v1 : Option Int).bind fun (v5 : Int) =>
         if decide (v5 < 2) = false then
           (F_nat_Bits v1 : Option Int).bind fun (v6 : Int) =>
           some (decide (v6 > 64))
          else
           some (true)
        else
         some (true)
      else
       some (true) : Option Bool).bind fun v7 =>
    if v7 = true then
      some (1)
     else
      some (0)
noncomputable def fn_rsa_Check : Fn := ⟨54, [.v (.lst false 1), .v (.lst false 1)], .pure (.one (.t (.v (.int .i64)))) 2, F_rsa_Check⟩
theorem t_rsa_Check : GoodAt Try.prog HH HSP 3 fn_rsa_Check := goodAt_of (ho := HO) (l := [fn_nat_Bits, fn_rsa_isOdd]) rfl (hl1 (t_nat_Bits.up (by decide)) (hl1 (t_rsa_isOdd.up (by decide)) hl0)) fun x => by kernel_rfl
noncomputable def F_key_Check : Ps [.v (.st rapi_Key)] → Option (Rc.I (.pure (.one (.t (.v (.int .i64)))) 1)) := fun ((v0, v1, v2, v3, v4, v5) : (Int × (Int × (Int × ((List V) × ((List V) × (List Int))))))) =>
 (F_key_may (v0, v1, v2, v3, v4, fitI v5 0 32) : Option Bool).bind fun (v6 : Bool) =>
 if (!v6) = true then
   some (1)
  else
   if (v2 == 1) = true then
    (F_rsa_Check (v3, v4) : Option Int).bind fun (v7 : Int) =>
    some (v7)
   else
    (F_edwards_Unpack (arrV .u8 v5 0 32) : Option (((List Int) × (List Int)) × Bool)).bind fun (((v8, v9), v10) : (((List Int) × (List Int)) × Bool)) =>
    if (!v10) = true then
      some (1)
     else
      some (0)
noncomputable def fn_key_Check : Fn := ⟨27, [.v (.st rapi_Key)], .pure (.one (.t (.v (.int .i64)))) 1, F_key_Check⟩
theorem t_key_Check : GoodAt Try.prog HH HSP 7 fn_key_Check := goodAt_of (ho := HO) (l := [fn_key_may, fn_rsa_Check, fn_edwards_Unpack]) rfl (hl1 (t_key_may.up (by decide)) (hl1 (t_rsa_Check.up (by decide)) (hl1 (t_edwards_Unpack.up (by decide)) hl0))) fun x => by kernel_rfl
noncomputable def F_cursor_Cursor_Left : Ps [.nd 90 [.v (.lst false 1), .v (.int .i64)]] → Option (Rc.I (.io (.one (.t (.v (.int .i64)))) [.nd 90 [.v (.lst false 1), .v (.int .i64)]])) := fun ((v0, v1) : ((List V) × Int)) =>
 some ((w64 (len v0 - v1), v0, v1))
noncomputable def fn_cursor_Cursor_Left : Fn := ⟨64, [.nd 90 [.v (.lst false 1), .v (.int .i64)]], .io (.one (.t (.v (.int .i64)))) [.nd 90 [.v (.lst false 1), .v (.int .i64)]], F_cursor_Cursor_Left⟩
theorem t_cursor_Cursor_Left : GoodAt Try.prog HH HSP 1 fn_cursor_Cursor_Left := goodAt_of (ho := HO) (l := []) rfl hl0 fun x => by kernel_rfl
noncomputable def F_nat_trim : Ps [.v (.lst false 1)] → Option (Rc.I (.pure (.one (.t (.v (.lst false 1)))) 1)) := fun (v0 : (List V)) =>
 loopO (σ := ((List V) × Int)) (R := (List V)) (fun (v1, v2) =>
  (if decide (v2 > 0) = true then
    if 0 ≤ w64 (v2 - 1) then
     (v1[Int.toNat (w64 (v2 - 1))]?).bind fun v3 =>
     (V.int? .u32 v3).bind fun v4 =>
      some (v4 == 0)
    else
     none
   else
    some (false) : Option Bool).bind fun v5 =>
  if v5 = true then
    some (.inl ((v1, w64 (v2 - 1))))
   else
    (if 0 ≤ v2 then
      if 0 ≤ v2 then
       if 0 ≤ Int.toNat v2 ∧ Int.toNat v2 = Int.toNat v2 ∧ Int.toNat v2 ≤ List.length v1 then
        some (List.take (Int.toNat v2) (List.drop 0 v1))
       else
        none
      else
       none
     else
      none : Option (List V)).bind fun v6 =>
    some (.inr (v6))) ((v0, len v0))
noncomputable def fn_nat_trim : Fn := ⟨168, [.v (.lst false 1)], .pure (.one (.t (.v (.lst false 1)))) 1, F_nat_trim⟩
theorem t_nat_trim : GoodAt Try.prog HH HSP 1 fn_nat_trim := goodAt_of (ho := HO) (l := []) rfl hl0 fun x => by kernel_rfl
noncomputable def F_nat_Read : Ps [.v (.lst true 1)] → Option (Rc.I (.pure (.one (.t (.v (.lst false 1)))) 1)) := fun (v0 : (List V)) =>
 if 0 ≤ w64 (Int.tdiv (w64 (len v0 + 3)) 4) ∧ w64 (Int.tdiv (w64 (len v0 + 3)) 4) ≤ w64 (Int.tdiv (w64 (len v0 + 3)) 4) ∧ w64 (Int.tdiv (w64 (len v0 + 3)) 4) ≤ 2147483648 then
  loopO (σ := ((List V) × ((List V) × ((List V) × (Int × Int))))) (R := (List V)) (fun (v1, v2, v3, v4, v5) =>
   if decide (v5 < v4) = true then
    if 0 ≤ v5 then
     (v3[Int.toNat v5]?).bind fun v6 =>
     (V.int? .u8 v6).bind fun v7 =>
      if 0 ≤ w64 (Int.tdiv (w64 (w64 (len v1 - 1) - v5)) 4) ∧ w64 (Int.tdiv (w64 (w64 (len v1 - 1) - v5)) 4) < len v2 then
        (v2[0 + Int.toNat (w64 (Int.tdiv (w64 (w64 (len v1 - 1) - v5)) 4))]?).bind fun v8 =>
        ((V.cells v8)[0]?).bind fun v9 =>
         (V.int? .u32 v9).bind fun v10 =>
          if w64 (8 * Int.tmod (w64 (w64 (len v1 - 1) - v5)) 4) < 0 then
            none
           else
            if 0 ≤ w64 (Int.tdiv (w64 (w64 (len v1 - 1) - v5)) 4) ∧ w64 (Int.tdiv (w64 (w64 (len v1 - 1) - v5)) 4) < len v2 then
             (v2[0 + Int.toNat (w64 (Int.tdiv (w64 (w64 (len v1 - 1) - v5)) 4))]?).bind fun v11 =>
             some (.inl ((v1, List.set v2 (0 + Int.toNat (w64 (Int.tdiv (w64 (w64 (len v1 - 1) - v5)) 4))) (storeEl v11 0 [V.int .u32 (wordOr .u32 v10 (wordShl .u32 (wu32 v7) (w64 (8 * Int.tmod (w64 (w64 (len v1 - 1) - v5)) 4))))]), v3, v4, w64 (v5 + 1))))
            else
             none
       else
        none
    else
     none
   else
    ((F_nat_trim (all v2) : Option (List V)).bind fun (v12 : (List V)) =>
     some (v12) : Option (List V)).bind fun v13 =>
    some (.inr (v13))) ((v0, rep (Int.toNat (w64 (Int.tdiv (w64 (len v0 + 3)) 4))) (V.int .u32 0), v0, len v0, 0))
 else
  none
noncomputable def fn_nat_Read : Fn := ⟨135, [.v (.lst true 1)], .pure (.one (.t (.v (.lst false 1)))) 1, F_nat_Read⟩
theorem t_nat_Read : GoodAt Try.prog HH HSP 2 fn_nat_Read := goodAt_of (ho := HO) (l := [fn_nat_trim]) rfl (hl1 (t_nat_trim.up (by decide)) hl0) fun x => by kernel_rfl
noncomputable def F_cursor_Cursor_Take : Ps [.nd 90 [.v (.lst false 1), .v (.int .i64)], .v (.int .i64)] → Option (Rc.I (.io (.tup [.t (.own 5), .t (.v (.int .i64))]) [.nd 90 [.v (.lst false 1), .v (.int .i64)], .t .dead])) := fun (((v0, v1), v2) : (((List V) × Int) × Int)) =>
 if decide (v2 < 0) = true then
  some (((nilV, 1), (v0, v1), PUnit.unit))
 else
  (F_cursor_Cursor_Left (v0, v1) : Option (Int × ((List V) × Int))).bind fun ((v3, v4, v5) : (Int × ((List V) × Int))) =>
  if decide (v2 > v3) = true then
    some (((nilV, 2), (v4, v5), PUnit.unit))
   else
    if 0 ≤ v5 then
     if 0 ≤ w64 (v5 + v2) then
      if Int.toNat v5 ≤ Int.toNat (w64 (v5 + v2)) ∧ Int.toNat (w64 (v5 + v2)) ≤ List.length v4 then
       (if List.length (List.take (Int.toNat (w64 (v5 + v2)) - Int.toNat v5) (List.drop (Int.toNat v5) v4)) ≤ 2147483648 then
         some (List.take (Int.toNat (w64 (v5 + v2)) - Int.toNat v5) (List.drop (Int.toNat v5) v4))
        else
         none : Option (List V)).bind fun v6 =>
       some (((all v6, 0), (v4, w64 (v5 + v2)), PUnit.unit))
      else
       none
     else
      none
    else
     none
noncomputable def fn_cursor_Cursor_Take : Fn := ⟨63, [.nd 90 [.v (.lst false 1), .v (.int .i64)], .v (.int .i64)], .io (.tup [.t (.own 5), .t (.v (.int .i64))]) [.nd 90 [.v (.lst false 1), .v (.int .i64)], .t .dead], F_cursor_Cursor_Take⟩
theorem t_cursor_Cursor_Take : GoodAt Try.prog HH HSP 2 fn_cursor_Cursor_Take := goodAt_of (ho := HO) (l := [fn_cursor_Cursor_Left, fn_bytes_Clone]) rfl (hl1 (t_cursor_Cursor_Left.up (by decide)) (hl1 (t_bytes_Clone.up (by decide)) hl0)) fun x => by kernel_rfl
noncomputable def F_cursor_Cursor_Number : Ps [.nd 90 [.v (.lst false 1), .v (.int .i64)], .v (.int .i64)] → Option (Rc.I (.io (.tup [.t (.v (.int .u64)), .t (.v (.int .i64))]) [.nd 90 [.v (.lst false 1), .v (.int .i64)], .t .dead])) := fun (((v0, v1), v2) : (((List V) × Int) × Int)) =>
 (if decide (v2 < 1) = false then
   some (decide (v2 > 8))
  else
   some (true) : Option Bool).bind fun v3 =>
 if v3 = true then
   some (((0, 1), (v0, v1), PUnit.unit))
  else
   (F_cursor_Cursor_Take ((v0, v1), v2) : Option (((List V) × Int) × (((List V) × Int) × Unit))).bind fun (((v4, v5), (v6, v7), v8) : (((List V) × Int) × (((List V) × Int) × Unit))) =>
   loopO (σ := ((List V) × (Int × ((Nat × Nat) × (Int × Int))))) (R := ((Int × Int) × (((List V) × Int) × Unit))) (fun (v9, v10, (v11, v12), v13, v14) =>
     if decide (v14 < v13) = true then
      if 0 ≤ v14 ∧ v14 < (↑v12 : Int) then
       (v9[v11 + Int.toNat v14]?).bind fun v15 =>
       ((V.cells v15)[0]?).bind fun v16 =>
        (V.int? .u8 v16).bind fun v17 =>
         some (.inl ((v9, wordOr .u64 (wordShl .u64 v10 8) (wu64 v17), (v11, v12), v13, w64 (v14 + 1))))
      else
       none
     else
      some (.inr (((v10, v5), (v6, v7), PUnit.unit)))) ((v4, 0, (0, List.length v4), len v4, 0))
noncomputable def fn_cursor_Cursor_Number : Fn := ⟨37, [.nd 90 [.v (.lst false 1), .v (.int .i64)], .v (.int .i64)], .io (.tup [.t (.v (.int .u64)), .t (.v (.int .i64))]) [.nd 90 [.v (.lst false 1), .v (.int .i64)], .t .dead], F_cursor_Cursor_Number⟩
theorem t_cursor_Cursor_Number : GoodAt Try.prog HH HSP 3 fn_cursor_Cursor_Number := goodAt_of (ho := HO) (l := [fn_cursor_Cursor_Take]) rfl (hl1 (t_cursor_Cursor_Take.up (by decide)) hl0) fun x => by kernel_rfl
noncomputable def F_mpi_take : Ps [.nd 90 [.v (.lst false 1), .v (.int .i64)]] → Option (Rc.I (.io (.tup [.t (.v (.lst false 1)), .t (.v (.int .i64))]) [.nd 90 [.v (.lst false 1), .v (.int .i64)]])) := fun ((v0, v1) : ((List V) × Int)) =>
 (F_cursor_Cursor_Number ((v0, v1), 2) : Option ((Int × Int) × (((List V) × Int) × Unit))).bind fun (((v2, v3), (v4, v5), v6) : ((Int × Int) × (((List V) × Int) × Unit))) =>
 if (v3 != 0) = true then
   some (((nilV, v3), v4, v5))
  else
   if decide (v2 > 16384) = true then
    some (((nilV, 4), v4, v5))
   else
    (F_cursor_Cursor_Take ((v4, v5), w64 (Int.tdiv (w64 (w64 v2 + 7)) 8)) : Option (((List V) × Int) × (((List V) × Int) × Unit))).bind fun (((v7, v8), (v9, v10), v11) : (((List V) × Int) × (((List V) × Int) × Unit))) =>
    if (v8 != 0) = true then
      some (((nilV, v8), v9, v10))
     else
      (F_nat_Read (all v7) : Option (List V)).bind fun (v12 : (List V)) =>
      (F_nat_Bits v12 : Option Int).bind fun (v13 : Int) =>
       if (v13 != w64 v2) = true then
         some (((nilV, 3), v9, v10))
        else
         some (((v12, 0), v9, v10))
noncomputable def fn_mpi_take : Fn := ⟨101, [.nd 90 [.v (.lst false 1), .v (.int .i64)]], .io (.tup [.t (.v (.lst false 1)), .t (.v (.int .i64))]) [.nd 90 [.v (.lst false 1), .v (.int .i64)]], F_mpi_take⟩
theorem t_mpi_take : GoodAt Try.prog HH HSP 4 fn_mpi_take := goodAt_of (ho := HO) (l := [fn_cursor_Cursor_Number, fn_cursor_Cursor_Take, fn_nat_Read, fn_nat_Bits]) rfl (hl1 (t_cursor_Cursor_Number.up (by decide)) (hl1 (t_cursor_Cursor_Take.up (by decide)) (hl1 (t_nat_Read.up (by decide)) (hl1 (t_nat_Bits.up (by decide)) hl0)))) fun x => by kernel_rfl
noncomputable def F_cursor_Over : Ps [.v (.lst true 1)] → Option (Rc.I (.pure (.one (.nd 90 [.v (.lst false 1), .v (.int .i64)])) 1)) := fun (v0 : (List V)) =>
 (if List.length v0 ≤ 2147483648 then
   some (v0)
  else
   none : Option (List V)).bind fun v1 =>
 some ((v1, 0))
noncomputable def fn_cursor_Over : Fn := ⟨36, [.v (.lst true 1)], .pure (.one (.nd 90 [.v (.lst false 1), .v (.int .i64)])) 1, F_cursor_Over⟩
theorem t_cursor_Over : GoodAt Try.prog HH HSP 2 fn_cursor_Over := goodAt_of (ho := HO) (l := [fn_bytes_Clone]) rfl (hl1 (t_bytes_Clone.up (by decide)) hl0) fun x => by kernel_rfl
noncomputable def F_mpi_All : Ps [.v (.lst true 1), .v (.int .i64)] → Option (Rc.I (.pure (.tup [.t (.own 24), .t (.v (.int .i64))]) 2)) := fun ((v0, v1) : ((List V) × Int)) =>
 (if decide (v1 < 0) = false then
   some (decide (v1 > 10))
  else
   some (true) : Option Bool).bind fun v2 =>
 if v2 = true then
   some ((nilV, 1))
  else
   (F_cursor_Over v0 : Option ((List V) × Int)).bind fun ((v3, v4) : ((List V) × Int)) =>
   loopO (σ := ((List V) × (Int × (((List V) × Int) × ((List V) × (Int × Int)))))) (R := ((List V) × Int)) (fun (v5, v6, (v7, v8), v9, v10, v11) =>
     if decide (v11 < v10) = true then
      (F_mpi_take (v7, v8) : Option (((List V) × Int) × ((List V) × Int))).bind fun (((v12, v13), v14, v15) : (((List V) × Int) × ((List V) × Int))) =>
      if (v13 != 0) = true then
        some (.inr ((nilV, v13)))
       else
        if List.length (all v9) + 1 ≤ 2147483648 then
         some (.inl ((v5, v6, (v14, v15), all v9 ++ [V.sl false false 1 v12], v10, w64 (v11 + 1))))
        else
         none
     else
      ((F_cursor_Cursor_Left (v7, v8) : Option (Int × ((List V) × Int))).bind fun ((v16, v17, v18) : (Int × ((List V) × Int))) =>
       if decide (v16 > 0) = true then
         some ((nilV, 3))
        else
         some ((all v9, 0)) : Option ((List V) × Int)).bind fun (v19, v20) =>
      some (.inr ((v19, v20)))) ((nilV, 0, (v3, v4), nilV, v1, 0))
noncomputable def fn_mpi_All : Fn := ⟨65, [.v (.lst true 1), .v (.int .i64)], .pure (.tup [.t (.own 24), .t (.v (.int .i64))]) 2, F_mpi_All⟩
theorem t_mpi_All : GoodAt Try.prog HH HSP 5 fn_mpi_All := goodAt_of (ho := HO) (l := [fn_cursor_Over, fn_mpi_take, fn_cursor_Cursor_Left]) rfl (hl1 (t_cursor_Over.up (by decide)) (hl1 (t_mpi_take.up (by decide)) (hl1 (t_cursor_Cursor_Left.up (by decide)) hl0))) fun x => by kernel_rfl
noncomputable def F_key_fill : Ps [.v (.st rapi_Key), .v (.lst true 1)] → Option (Rc.I (.pure (.tup [.t (.v (.st rapi_Key)), .t (.v (.int .i64))]) 2)) := fun (((v0, v1, v2, v3, v4, v5), v6) : ((Int × (Int × (Int × ((List V) × ((List V) × (List Int)))))) × (List V))) =>
 if (v2 == 27) = true then
  if (len v6 != 32) = true then
   some (((0, 0, 0, nilV, nilV, rep 32 0), 3))
  else
   if 32 ≤ List.length v6 then
    (intsOf .u8 32 v6).bind fun v7 =>
    some (((v0, v1, v2, v3, v4, fitI v7 0 32), 0))
   else
    none
 else
  (F_mpi_All (v6, 2) : Option ((List V) × Int)).bind fun ((v8, v9) : ((List V) × Int)) =>
  if (v9 != 0) = true then
    some (((0, 0, 0, nilV, nilV, rep 32 0), v9))
   else
    if idI 0 ≤ 0 ∧ 0 < len v8 then
     (v8[0]?).bind fun v10 =>
     ((V.cells v10)[0]?).bind fun v11 =>
      (V.lst? false 1 v11).bind fun v12 =>
       if idI 0 ≤ 1 ∧ 1 < len v8 then
         (v8[1]?).bind fun v13 =>
         ((V.cells v13)[0]?).bind fun v14 =>
          (V.lst? false 1 v14).bind fun v15 =>
           some (((v0, v1, v2, v12, v15, fitI v5 0 32), 0))
        else
         none
    else
     none
noncomputable def fn_key_fill : Fn := ⟨39, [.v (.st rapi_Key), .v (.lst true 1)], .pure (.tup [.t (.v (.st rapi_Key)), .t (.v (.int .i64))]) 2, F_key_fill⟩
theorem t_key_fill : GoodAt Try.prog HH HSP 6 fn_key_fill := goodAt_of (ho := HO) (l := [fn_mpi_All]) rfl (hl1 (t_mpi_All.up (by decide)) hl0) fun x => by kernel_rfl
noncomputable def F_cursor_Cursor_Rest : Ps [.nd 90 [.v (.lst false 1), .v (.int .i64)]] → Option (Rc.I (.io (.one (.t (.own 5))) [.nd 90 [.v (.lst false 1), .v (.int .i64)]])) := fun ((v0, v1) : ((List V) × Int)) =>
 (F_cursor_Cursor_Left (v0, v1) : Option (Int × ((List V) × Int))).bind fun ((v2, v3, v4) : (Int × ((List V) × Int))) =>
 (F_cursor_Cursor_Take ((v3, v4), v2) : Option (((List V) × Int) × (((List V) × Int) × Unit))).bind fun (((v5, v6), (v7, v8), v9) : (((List V) × Int) × (((List V) × Int) × Unit))) =>
  some ((all v5, v7, v8))
noncomputable def fn_cursor_Cursor_Rest : Fn := ⟨40, [.nd 90 [.v (.lst false 1), .v (.int .i64)]], .io (.one (.t (.own 5))) [.nd 90 [.v (.lst false 1), .v (.int .i64)]], F_cursor_Cursor_Rest⟩
theorem t_cursor_Cursor_Rest : GoodAt Try.prog HH HSP 3 fn_cursor_Cursor_Rest := goodAt_of (ho := HO) (l := [fn_cursor_Cursor_Left, fn_cursor_Cursor_Take]) rfl (hl1 (t_cursor_Cursor_Left.up (by decide)) (hl1 (t_cursor_Cursor_Take.up (by decide)) hl0)) fun x => by kernel_rfl
noncomputable def F_key_size : Ps [.nd 90 [.v (.lst false 1), .v (.int .i64)], .v (.int .i64)] → Option (Rc.I (.io (.one (.t (.v (.int .i64)))) [.nd 90 [.v (.lst false 1), .v (.int .i64)], .t .dead])) := fun (((v0, v1), v2) : (((List V) × Int) × Int)) =>
 if (v2 != 6) = true then
  some ((0, (v0, v1), PUnit.unit))
 else
  (F_cursor_Cursor_Number ((v0, v1), 4) : Option ((Int × Int) × (((List V) × Int) × Unit))).bind fun (((v3, v4), (v5, v6), v7) : ((Int × Int) × (((List V) × Int) × Unit))) =>
  if (v4 == 0) = true then
    (F_cursor_Cursor_Left (v5, v6) : Option (Int × ((List V) × Int))).bind fun ((v8, v9, v10) : (Int × ((List V) × Int))) =>
    if (v3 != wu64 v8) = true then
      some ((3, (v9, v10), PUnit.unit))
     else
      some ((v4, (v9, v10), PUnit.unit))
   else
    some ((v4, (v5, v6), PUnit.unit))
noncomputable def fn_key_size : Fn := ⟨38, [.nd 90 [.v (.lst false 1), .v (.int .i64)], .v (.int .i64)], .io (.one (.t (.v (.int .i64)))) [.nd 90 [.v (.lst false 1), .v (.int .i64)], .t .dead], F_key_size⟩
theorem t_key_size : GoodAt Try.prog HH HSP 4 fn_key_size := goodAt_of (ho := HO) (l := [fn_cursor_Cursor_Number, fn_cursor_Cursor_Left]) rfl (hl1 (t_cursor_Cursor_Number.up (by decide)) (hl1 (t_cursor_Cursor_Left.up (by decide)) hl0)) fun x => by kernel_rfl
noncomputable def F_key_Parse : Ps [.v (.lst true 1)] → Option (Rc.I (.pure (.tup [.t (.v (.st rapi_Key)), .t (.v (.int .i64))]) 1)) := fun (v0 : (List V)) =>
 (F_cursor_Over v0 : Option ((List V) × Int)).bind fun ((v1, v2) : ((List V) × Int)) =>
 (F_cursor_Cursor_Number ((v1, v2), 1) : Option ((Int × Int) × (((List V) × Int) × Unit))).bind fun (((v3, v4), (v5, v6), v7) : ((Int × Int) × (((List V) × Int) × Unit))) =>
  if (v4 != 0) = true then
    some (((0, 0, 0, nilV, nilV, rep 32 0), v4))
   else
    (if (v3 != 4) = true then
      some (v3 != 6)
     else
      some (false) : Option Bool).bind fun v8 =>
    if v8 = true then
      some (((0, 0, 0, nilV, nilV, rep 32 0), 3))
     else
      (F_cursor_Cursor_Number ((v5, v6), 4) : Option ((Int × Int) × (((List V) × Int) × Unit))).bind fun (((v9, v10), (v11, v12), v13) : ((Int × Int) × (((List V) × Int) × Unit))) =>
      if (v10 != 0) = true then
        some (((0, 0, 0, nilV, nilV, rep 32 0), v10))
       else
        (F_cursor_Cursor_Number ((v11, v12), 1) : Option ((Int × Int) × (((List V) × Int) × Unit))).bind fun (((v14, v15), (v16, v17), v18) : ((Int × Int) × (((List V) × Int) × Unit))) =>
        if (v15 != 0) = true then
          some (((0, 0, 0, nilV, nilV, rep 32 0), v15))
         else
          (if (w64 v14 != 1) = true then
            some (w64 v14 != 27)
           else
            some (false) : Option Bool).bind fun v19 =>
          if v19 = true then
            some (((0, 0, 0, nilV, nilV, rep 32 0), 9))
           else
            (F_key_size ((v16, v17), w64 v3) : Option (Int × (((List V) × Int) × Unit))).bind fun ((v20, (v21, v22), v23) : (Int × (((List V) × Int) × Unit))) =>
            if (v20 != 0) = true then
              some (((0, 0, 0, nilV, nilV, rep 32 0), v20))
             else
              (F_cursor_Cursor_Rest (v21, v22) : Option ((List V) × ((List V) × Int))).bind fun ((v24, v25, v26) : ((List V) × ((List V) × Int))) =>
              (F_key_fill ((w64 v3, wu32 v9, w64 v14, nilV, nilV, rep 32 0), all v24) : Option ((Int × (Int × (Int × ((List V) × ((List V) × (List Int)))))) × Int)).bind fun (((v27, v28, v29, v30, v31, v32), v33) : ((Int × (Int × (Int × ((List V) × ((List V) × (List Int)))))) × Int)) =>
               some (((v27, v28, v29, v30, v31, fitI v32 0 32), v33))
noncomputable def fn_key_Parse : Fn := ⟨12, [.v (.lst true 1)], .pure (.tup [.t (.v (.st rapi_Key)), .t (.v (.int .i64))]) 1, F_key_Parse⟩
theorem t_key_Parse : GoodAt Try.prog HH HSP 7 fn_key_Parse := goodAt_of (ho := HO) (l := [fn_cursor_Over, fn_cursor_Cursor_Number, fn_key_size, fn_cursor_Cursor_Rest, fn_key_fill]) rfl (hl1 (t_cursor_Over.up (by decide)) (hl1 (t_cursor_Cursor_Number.up (by decide)) (hl1 (t_key_size.up (by decide)) (hl1 (t_cursor_Cursor_Rest.up (by decide)) (hl1 (t_key_fill.up (by decide)) hl0))))) fun x => by kernel_rfl
noncomputable def F_affiantlaw23_alive : Ps [] → Option (Rc.I (.pure (.one (.t (.v .bool))) 0)) := fun (v0 : Unit) =>
 (F_key_Image (4, 0, 27, nilV, nilV, rep 32 0) : Option ((List V) × Int)).bind fun ((v1, v2) : ((List V) × Int)) =>
 (F_key_Parse [V.int .u8 3] : Option ((Int × (Int × (Int × ((List V) × ((List V) × (List Int)))))) × Int)).bind fun (((v3, v4, v5, v6, v7, v8), v9) : ((Int × (Int × (Int × ((List V) × ((List V) × (List Int)))))) × Int)) =>
  (if (v2 == 0) = true then
     if (len v1 == 41) = true then
      if idN 0 ≤ 4 ∧ 4 ≤ List.length v1 then
       (unbytes (List.take 4 (List.drop 0 v1))).bind fun v10 =>
       if (v10 == by8 [153, 0, 38, 4]) = true then
         some (v9 == 3)
        else
         some (false)
      else
       none
     else
      some (false)
    else
     some (false) : Option Bool).bind fun v11 =>
   some (v11)
noncomputable def fn_affiantlaw23_alive : Fn := ⟨10, [], .pure (.one (.t (.v .bool))) 0, F_affiantlaw23_alive⟩
theorem t_affiantlaw23_alive : GoodAt Try.prog HH HSP 9 fn_affiantlaw23_alive := goodAt_of (ho := HO) (l := [fn_key_Image, fn_key_Parse]) rfl (hl1 (t_key_Image.up (by decide)) (hl1 (t_key_Parse.up (by decide)) hl0)) fun x => by kernel_rfl
noncomputable def F_affiantref23_Small : Ps [.v (.st rapi_Key)] → Option (Rc.I (.pure (.one (.t (.v .bool))) 1)) := fun ((v0, v1, v2, v3, v4, v5) : (Int × (Int × (Int × ((List V) × ((List V) × (List Int))))))) =>
 (if decide (len v3 ≤ 520) = true then
   some (decide (len v4 ≤ 520))
  else
   some (false) : Option Bool).bind fun v6 =>
 some (v6)
noncomputable def fn_affiantref23_Small : Fn := ⟨9, [.v (.st rapi_Key)], .pure (.one (.t (.v .bool))) 1, F_affiantref23_Small⟩
theorem t_affiantref23_Small : GoodAt Try.prog HH HSP 1 fn_affiantref23_Small := goodAt_of (ho := HO) (l := []) rfl hl0 fun x => by kernel_rfl
noncomputable def F_affiantlaw23_KeyCheck : Ps [.v (.st rapi_Key), .v (.st rapi_Key)] → Option (Rc.I (.pure (.one (.t (.v .bool))) 2)) := fun (((v0, v1, v2, v3, v4, v5), v6, v7, v8, v9, v10, v11) : ((Int × (Int × (Int × ((List V) × ((List V) × (List Int)))))) × (Int × (Int × (Int × ((List V) × ((List V) × (List Int)))))))) =>
 ((F_affiantref23_Small (v0, v1, v2, v3, v4, fitI v5 0 32) : Option Bool).bind fun (v12 : Bool) =>
  if (!v12) = false then
    (F_affiantref23_Small (v6, v7, v8, v9, v10, fitI v11 0 32) : Option Bool).bind fun (v13 : Bool) =>
    some (!v13)
   else
    some (true) : Option Bool).bind fun v14 =>
 if v14 = true then
   (F_affiantlaw23_alive PUnit.unit : Option Bool).bind fun (v15 : Bool) =>
   some (v15)
  else
   ((F_affiantlaw23_alive PUnit.unit : Option Bool).bind fun (v16 : Bool) =>
    if v16 = true then
      (F_key_Check (v0, v1, v2, v3, v4, fitI v5 0 32) : Option Int).bind fun (v17 : Int) =>
      (F_affiantref23_Check (v0, v1, v2, v3, v4, fitI v5 0 32) : Option Int).bind fun (v18 : Int) =>
       if (v17 == v18) = true then
         (F_key_Same ((v0, v1, v2, v3, v4, fitI v5 0 32), v6, v7, v8, v9, v10, fitI v11 0 32) : Option Bool).bind fun (v19 : Bool) =>
         (F_affiantref23_Same ((v0, v1, v2, v3, v4, fitI v5 0 32), v6, v7, v8, v9, v10, fitI v11 0 32) : Option Bool).bind fun (v20 : Bool) =>
          some (v19 == v20)
        else
         some (false)
     else
      some (false) : Option Bool).bind fun v21 =>
   some (v21)
noncomputable def fn_affiantlaw23_KeyCheck : Fn := ⟨7, [.v (.st rapi_Key), .v (.st rapi_Key)], .pure (.one (.t (.v .bool))) 2, F_affiantlaw23_KeyCheck⟩
theorem t_affiantlaw23_KeyCheck : GoodAt Try.prog HH HSP 10 fn_affiantlaw23_KeyCheck := goodAt_of (ho := HO) (l := [fn_affiantref23_Small, fn_affiantlaw23_alive, fn_key_Check, fn_affiantref23_Check, fn_key_Same, fn_affiantref23_Same]) rfl (hl1 (t_affiantref23_Small.up (by decide)) (hl1 (t_affiantlaw23_alive.up (by decide)) (hl1 (t_key_Check.up (by decide)) (hl1 (t_affiantref23_Check.up (by decide)) (hl1 (t_key_Same.up (by decide)) (hl1 (t_affiantref23_Same.up (by decide)) hl0)))))) fun x => by kernel_rfl
end Go.Proofs.Ytffofdfikmpanaa.A
