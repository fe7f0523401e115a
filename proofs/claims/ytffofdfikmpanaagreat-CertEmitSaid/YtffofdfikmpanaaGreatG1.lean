/- What the program's functions come to. Conditions: none. -/
import Derived.Test.YtffofdfikmpanaaGreatLE
import Derived.Test.YtffofdfikmpanaaGreatChecked
set_option linter.unusedVariables false
set_option linter.unusedSimpArgs false
set_option linter.constructorNameAsVariable false
set_option linter.unusedSectionVars false

namespace Go.Proofs.YtffofdfikmpanaaGreat.A
open Go Go.Proofs
set_option maxRecDepth 100000
noncomputable def HH : Hints := { ht := fun f => match Tryz.prog.funcs[f]? with | some fn => funcHTz (match f with | 150 => [2] | 114 => [2] | 73 => [2] | 146 => [2] | 103 => [2] | _ => []) fn | none => .z, mode := fun f k => match f, k with | 150, 0 => 2 | 115, 0 => 2 | 36, 2 => 2 | 163, 0 => 2 | 144, 0 => 2 | 166, 0 => 2 | 145, 0 => 2 | 102, 0 => 2 | 102, 1 => 2 | 146, 0 => 2 | 107, 0 => 3 | 143, 0 => 2 | _, _ => 0, give := fun f d => match f with | 167 => [4].contains d | 147 => [2].contains d | 24 => [6].contains d | 106 => [4].contains d | 115 => [2].contains d | 82 => [2].contains d | 49 => [2].contains d | 51 => [6].contains d | 23 => [2].contains d | 74 => [2].contains d | 40 => [2].contains d | 39 => [2].contains d | 16 => [2].contains d | 165 => [4].contains d | 145 => [2].contains d | 48 => [6].contains d | 102 => [4].contains d | 77 => [6].contains d | 47 => [4].contains d | 107 => [4].contains d | 75 => [2].contains d | 46 => [2, 3].contains d | 66 => [2].contains d | 101 => [6].contains d | 100 => [2].contains d | 65 => [2].contains d | 15 => [2].contains d | _ => false, same := fun f => false, raw := fun t => [].contains t, iter := fun f caps => match f, caps with | 182, [.ref _ [.sl _ _ _ es]] => downItems .u32 es | _, _ => none, zo := fun t => [71, 106].contains t, un := fun f => if [33, 62].contains f then 8 else 0 }
noncomputable def HO : Ho := { item := fun f => match f with | 182 => [.int .i64, .int .u32] | _ => [], bigT := fun t => [].contains t }
noncomputable def HSP : Told := fun f => match f with | 97 => some (fun args => match args with | [.v (.sl true false 1 es)] => if es.length ≤ 2147483648 then some (.own 5 es, [.dead]) else none | _ => none) | _ => none
noncomputable def F_bytes_Clone : Ps [.v (.lst true 1)] → Option (Rc.I (.pure (.one (.t (.own 5))) 1)) := fun l => if l.length ≤ 2147483648 then some l else none
noncomputable def fn_bytes_Clone : Fn := ⟨97, [.v (.lst true 1)], .pure (.one (.t (.own 5))) 1, F_bytes_Clone⟩
theorem t_bytes_Clone : GoodAt Tryz.prog HH HSP 1 fn_bytes_Clone := goodAt_told rfl fun (x : List V) y h => by have h : (if x.length ≤ 2147483648 then some x else none) = some y := h; split at h <;> first | (rename_i hx; cases h; exact if_pos hx) | cases h
def INL : FuncId → Bool := fun f => [33, 45, 56, 57, 58, 62, 63, 70, 71, 85, 86, 88, 96, 98, 104, 105, 210, 211, 212, 213, 214, 215, 216, 217, 218, 219, 220, 221].contains f
theorem INL_told (f : FuncId) (h : INL f = true) : HSP f = none := by
  have hm : f ∈ ([33, 45, 56, 57, 58, 62, 63, 70, 71, 85, 86, 88, 96, 98, 104, 105, 210, 211, 212, 213, 214, 215, 216, 217, 218, 219, 220, 221] : List Nat) := List.contains_iff_mem.1 h
  simp only [List.mem_cons, List.mem_nil_iff, or_false] at hm
  rcases hm with rfl | rfl | rfl | rfl | rfl | rfl | rfl | rfl | rfl | rfl | rfl | rfl | rfl | rfl | rfl | rfl | rfl | rfl | rfl | rfl | rfl | rfl | rfl | rfl | rfl | rfl | rfl | rfl <;> rfl
@[reducible] def rapi_Sig : List Cc := [.int .i64, .int .i64, .int .i64, .int .i64, .lst false 3, .lst false 3, .int .u8, .int .u8, .lst false 1, .lst false 1]
@[reducible] def rapi_Cert : List Cc := [.int .i64, .int .u32, .int .i64, .lst false 1, .lst false 1, .arr .u8 32, .lst false 10, .lst false 2, .lst false 38]
@[reducible] def rapi_Subkey : List Cc := [.int .i64, .int .u32, .int .i64, .lst false 1, .lst false 1, .arr .u8 32, .lst false 10]
@[reducible] def rapi_Key : List Cc := [.int .i64, .int .u32, .int .i64, .lst false 1, .lst false 1, .arr .u8 32]
@[reducible] def rapi_Sub : List Cc := [.int .i64, .bool, .lst false 1]
@[reducible] def rapi_Packet : List Cc := [.int .i64, .lst false 1]
noncomputable def F_affiantref19_Same : Ps [.v (.lst true 2), .v (.lst true 2)] → Option (Rc.I (.pure (.one (.t (.v .bool))) 2)) := fun ((v0, v1) : ((List V) × (List V))) =>
  if (len v0 != len v1) = true then
    some (false)
  else
    loopO (σ := ((List V) × ((List V) × (Bool × Int)))) (R := Bool) (fun (v2, v3, v4, v5) =>
      if decide (v5 < len v2) = true then
        (if 0 ≤ v5 then
            (v2[Int.toNat v5]?).bind fun v6 =>
            (V.st? [Cc.int .i64, Cc.lst false 1] v6).bind fun (v7, v8) =>
              if 0 ≤ v5 then
                  (v3[Int.toNat v5]?).bind fun v9 =>
                  (V.st? [Cc.int .i64, Cc.lst false 1] v9).bind fun (v10, v11) =>
                    if (v7 != v10) = false then
                        if 0 ≤ v5 then
                          (v2[Int.toNat v5]?).bind fun v12 =>
                          (V.st? [Cc.int .i64, Cc.lst false 1] v12).bind fun (v13, v14) =>
                            (unbytes v14).bind fun v15 =>
                              if 0 ≤ v5 then
                                  (v3[Int.toNat v5]?).bind fun v16 =>
                                  (V.st? [Cc.int .i64, Cc.lst false 1] v16).bind fun (v17, v18) =>
                                    (unbytes v18).bind fun v19 =>
                                      some (!v15 == v19)
                                else
                                  none
                        else
                          none
                      else
                        some (true)
                else
                  none
          else
            none : Option Bool).bind fun v20 =>
        if v20 = true then
            some (.inr (false))
          else
            some (.inl ((v2, v3, v4, w64 (v5 + 1))))
      else
        some (.inr (true))) ((v0, v1, false, 0))
noncomputable def fn_affiantref19_Same : Fn := ⟨17, [.v (.lst true 2), .v (.lst true 2)], .pure (.one (.t (.v .bool))) 2, F_affiantref19_Same⟩
theorem t_affiantref19_Same : GoodAt Tryz.prog HH HSP 1 fn_affiantref19_Same := goodAt_of (ho := HO) (l := []) rfl hl0 fun x => by kernel_rfl

noncomputable def F_affiantref27_limits : Ps [.v (.st rapi_Cert)] → Option (Rc.I (.pure (.one (.t (.v .bool))) 1)) := fun ((v0, v1, v2, v3, v4, v5, v6, v7, v8) : (Int × (Int × (Int × ((List V) × ((List V) × ((List Int) × ((List V) × ((List V) × (List V)))))))))) =>
  (if decide (len v7 ≤ 30) = true then
      if decide (len v8 ≤ 30) = true then
        some (decide (len v6 ≤ 30))
      else
        some (false)
    else
      some (false) : Option Bool).bind fun v9 =>
  loopO (σ := ((Int × (Int × (Int × ((List V) × ((List V) × ((List Int) × ((List V) × ((List V) × (List V))))))))) × (Bool × Int))) (R := Bool) (fun ((v10, v11, v12, v13, v14, v15, v16, v17, v18), v19, v20) =>
      if decide (v20 < len v17) = true then
        (if v19 = true then
            if 0 ≤ v20 then
              (v17[Int.toNat v20]?).bind fun v21 =>
              (V.st? [Cc.str, Cc.lst false 10] v21).bind fun (v22, v23) =>
                some (decide (len v23 ≤ 30))
            else
              none
          else
            some (false) : Option Bool).bind fun v24 =>
        some (.inl (((v10, v11, v12, v13, v14, fitI v15 0 32, v16, v17, v18), v24, w64 (v20 + 1))))
      else
        (loopO (σ := ((Int × (Int × (Int × ((List V) × ((List V) × ((List Int) × ((List V) × ((List V) × (List V))))))))) × (Bool × Int))) (R := Bool) (fun ((v25, v26, v27, v28, v29, v30, v31, v32, v33), v34, v35) =>
            if decide (v35 < len v33) = true then
              (if v34 = true then
                  if 0 ≤ v35 then
                    (v33[Int.toNat v35]?).bind fun v36 =>
                    (V.st? [Cc.int .i64, Cc.int .u32, Cc.int .i64, Cc.lst false 1, Cc.lst false 1, Cc.arr .u8 32, Cc.lst false 10] v36).bind fun (v37, v38, v39, v40, v41, v42, v43) =>
                      some (decide (len v43 ≤ 30))
                  else
                    none
                else
                  some (false) : Option Bool).bind fun v44 =>
              some (.inl (((v25, v26, v27, v28, v29, fitI v30 0 32, v31, v32, v33), v44, w64 (v35 + 1))))
            else
              some (.inr (v34))) (((v10, v11, v12, v13, v14, fitI v15 0 32, v16, v17, v18), v19, 0)) : Option Bool).bind fun v45 =>
        some (.inr (v45))) (((v0, v1, v2, v3, v4, fitI v5 0 32, v6, v7, v8), v9, 0))
noncomputable def fn_affiantref27_limits : Fn := ⟨42, [.v (.st rapi_Cert)], .pure (.one (.t (.v .bool))) 1, F_affiantref27_limits⟩
theorem t_affiantref27_limits : GoodAt Tryz.prog HH HSP 1 fn_affiantref27_limits := goodAt_of (ho := HO) (l := []) rfl hl0 fun x => by kernel_rfl

noncomputable def F_affiantref04_digit : Ps [.v (.lst true 1), .v (.int .i64)] → Option (Rc.I (.pure (.one (.t (.v (.int .u64)))) 2)) := fun ((v0, v1) : ((List V) × Int)) =>
  if decide (v1 < len v0) = true then
    if 0 ≤ v1 then
      (v0[Int.toNat v1]?).bind fun v2 =>
      (V.int? .u64 v2).bind fun v3 =>
        some (v3)
    else
      none
  else
    some (0)
noncomputable def fn_affiantref04_digit : Fn := ⟨184, [.v (.lst true 1), .v (.int .i64)], .pure (.one (.t (.v (.int .u64)))) 2, F_affiantref04_digit⟩
theorem t_affiantref04_digit : GoodAt Tryz.prog HH HSP 1 fn_affiantref04_digit := goodAt_of (ho := HO) (l := []) rfl hl0 fun x => by kernel_rfl

noncomputable def F_affiantref04_fill : Ps [.v (.lst true 1), .v (.int .i64)] → Option (Rc.I (.pure (.one (.t (.own 5))) 2)) := fun ((v0, v1) : ((List V) × Int)) =>
  if 0 ≤ v1 ∧ v1 ≤ v1 ∧ v1 ≤ 2147483648 then
    loopO (σ := ((List V) × (Int × ((List V) × Int)))) (R := (List V)) (fun (v2, v3, v4, v5) =>
      if decide (v5 < v3) = true then
        (F_affiantref04_digit (v2, w64 (Int.tdiv v5 2)) : Option Int).bind fun (v6 : Int) =>
        (if (Int.tmod v5 2 == 1) = true then
              some (.inl (wu64 (Int.tdiv v6 256)))
            else
              some (.inl (v6)) : Option (Int ⊕ (((List V) × (Int × ((List V) × Int))) ⊕ (List V)))).bind fun v7 =>
          match v7 with
            | .inl v8 =>
              if 0 ≤ w64 (w64 (v3 - 1) - v5) ∧ w64 (w64 (v3 - 1) - v5) < len v4 then
                (v4[0 + Int.toNat (w64 (w64 (v3 - 1) - v5))]?).bind fun v9 =>
                some (.inl ((v2, v3, List.set v4 (0 + Int.toNat (w64 (w64 (v3 - 1) - v5))) (storeEl v9 0 [V.int .u8 (wu8 v8)]), w64 (v5 + 1))))
              else
                none
            | .inr v10 =>
              some (v10)
      else
        some (.inr (all v4))) ((v0, v1, rep (Int.toNat v1) (V.int .u8 0), 0))
  else
    none
noncomputable def fn_affiantref04_fill : Fn := ⟨167, [.v (.lst true 1), .v (.int .i64)], .pure (.one (.t (.own 5))) 2, F_affiantref04_fill⟩
theorem t_affiantref04_fill : GoodAt Tryz.prog HH HSP 2 fn_affiantref04_fill := goodAt_of (ho := HO) (l := [fn_affiantref04_digit]) rfl (hl1 (t_affiantref04_digit.up (by decide)) hl0) fun x => by kernel_rfl

noncomputable def F_affiantref04_trim : Ps [.v (.lst false 1)] → Option (Rc.I (.pure (.one (.t (.v (.lst false 1)))) 1)) := fun (v0 : (List V)) =>
  loopO (σ := ((List V) × Int)) (R := (List V)) (fun (v1, v2) =>
    (if decide (v2 > 0) = true then
        if 0 ≤ w64 (v2 - 1) then
          (v1[Int.toNat (w64 (v2 - 1))]?).bind fun v3 =>
          (V.int? .u64 v3).bind fun v4 =>
            some (v4 == 0)
        else
          none
      else
        some (false) : Option Bool).bind fun v5 =>
    if v5 = true then
        some (.inl ((v1, w64 (v2 - 1))))
      else
        (if 0 ≤ v2 then
            if 0 ≤ Int.toNat v2 ∧ Int.toNat v2 ≤ List.length v1 then
              some (List.take (Int.toNat v2) (List.drop 0 v1))
            else
              none
          else
            none : Option (List V)).bind fun v6 =>
        some (.inr (v6))) ((v0, len v0))
noncomputable def fn_affiantref04_trim : Fn := ⟨150, [.v (.lst false 1)], .pure (.one (.t (.v (.lst false 1)))) 1, F_affiantref04_trim⟩
theorem t_affiantref04_trim : GoodAt Tryz.prog HH HSP 1 fn_affiantref04_trim := goodAt_of (ho := HO) (l := []) rfl hl0 fun x => by kernel_rfl

noncomputable def F_affiantref04_Digits : Ps [.v (.lst true 1)] → Option (Rc.I (.pure (.one (.t (.v (.lst false 1)))) 1)) := fun (v0 : (List V)) =>
  loopO (σ := ((List V) × ((List V) × Int))) (R := (List V)) (fun (v1, v2, v3) =>
    if decide (v3 < len v1) = true then
      if 0 ≤ v3 then
        (v1[Int.toNat v3]?).bind fun v4 =>
        (V.int? .u32 v4).bind fun v5 =>
          if 0 ≤ v3 then
              (v1[Int.toNat v3]?).bind fun v6 =>
              (V.int? .u32 v6).bind fun v7 =>
                if List.length (all v2) + 2 ≤ 2147483648 then
                    some (.inl ((v1, all v2 ++ [V.int .u64 (wu64 (Int.tmod v5 65536)), V.int .u64 (wu64 (wu32 (Int.tdiv v7 65536)))], w64 (v3 + 1))))
                  else
                    none
            else
              none
      else
        none
    else
      ((F_affiantref04_trim (all v2) : Option (List V)).bind fun (v8 : (List V)) =>
        some (v8) : Option (List V)).bind fun v9 =>
      some (.inr (v9))) ((v0, nilV, 0))
noncomputable def fn_affiantref04_Digits : Fn := ⟨114, [.v (.lst true 1)], .pure (.one (.t (.v (.lst false 1)))) 1, F_affiantref04_Digits⟩
theorem t_affiantref04_Digits : GoodAt Tryz.prog HH HSP 2 fn_affiantref04_Digits := goodAt_of (ho := HO) (l := [fn_affiantref04_trim]) rfl (hl1 (t_affiantref04_trim.up (by decide)) hl0) fun x => by kernel_rfl

noncomputable def F_affiantref04_Bits : Ps [.v (.lst true 1)] → Option (Rc.I (.pure (.one (.t (.v (.int .i64)))) 1)) := fun (v0 : (List V)) =>
  (F_affiantref04_Digits v0 : Option (List V)).bind fun (v1 : (List V)) =>
  if (len v1 == 0) = true then
      some (0)
    else
      if 0 ≤ w64 (len v1 - 1) then
        (v1[Int.toNat (w64 (len v1 - 1))]?).bind fun v2 =>
        (V.int? .u64 v2).bind fun v3 =>
          loopO (σ := (Int × Int)) (R := Int) (fun (v4, v5) =>
              if decide (v5 > 0) = true then
                some (.inl ((w64 (v4 + 1), wu64 (Int.tdiv v5 2))))
              else
                some (.inr (v4))) ((w64 (16 * w64 (len v1 - 1)), v3))
      else
        none
noncomputable def fn_affiantref04_Bits : Fn := ⟨81, [.v (.lst true 1)], .pure (.one (.t (.v (.int .i64)))) 1, F_affiantref04_Bits⟩
theorem t_affiantref04_Bits : GoodAt Tryz.prog HH HSP 3 fn_affiantref04_Bits := goodAt_of (ho := HO) (l := [fn_affiantref04_Digits]) rfl (hl1 (t_affiantref04_Digits.up (by decide)) hl0) fun x => by kernel_rfl

noncomputable def F_affiantref04_Bytes : Ps [.v (.lst true 1)] → Option (Rc.I (.pure (.one (.t (.own 5))) 1)) := fun (v0 : (List V)) =>
  (F_affiantref04_Digits v0 : Option (List V)).bind fun (v1 : (List V)) =>
  (F_affiantref04_Bits v0 : Option Int).bind fun (v2 : Int) =>
    (F_affiantref04_fill (v1, w64 (Int.tdiv (w64 (v2 + 7)) 8)) : Option (List V)).bind fun (v3 : (List V)) =>
      some (v3)
noncomputable def fn_affiantref04_Bytes : Fn := ⟨147, [.v (.lst true 1)], .pure (.one (.t (.own 5))) 1, F_affiantref04_Bytes⟩
theorem t_affiantref04_Bytes : GoodAt Tryz.prog HH HSP 4 fn_affiantref04_Bytes := goodAt_of (ho := HO) (l := [fn_affiantref04_Digits, fn_affiantref04_Bits, fn_affiantref04_fill]) rfl (hl1 (t_affiantref04_Digits.up (by decide)) (hl1 (t_affiantref04_Bits.up (by decide)) (hl1 (t_affiantref04_fill.up (by decide)) hl0))) fun x => by kernel_rfl

noncomputable def F_affiantref01_Put : Ps [.v (.lst true 1), .v (.int .u64), .v (.int .i64)] → Option (Rc.I (.pure (.tup [.t (.own 5), .t (.v (.int .i64))]) 3)) := fun ((v0, v1, v2) : ((List V) × (Int × Int))) =>
  (if decide (v2 < 1) = false then
      if decide (v2 > 8) = false then
        if decide (v2 < 8) = true then
          if wu64 (w64 (8 * v2)) < 0 then
            none
          else
            some (decide (v1 ≥ wordShl .u64 1 (wu64 (w64 (8 * v2)))))
        else
          some (false)
      else
        some (true)
    else
      some (true) : Option Bool).bind fun v3 =>
  if v3 = true then
      some ((nilV, 1))
    else
      if 0 + List.length v0 ≤ 2147483648 then
        loopO (σ := (Int × ((List V) × Int))) (R := ((List V) × Int)) (fun (v4, v5, v6) =>
          if decide (v6 ≥ 0) = true then
            if wu64 (w64 (8 * v6)) < 0 then
              none
            else
              if List.length (all v5) + 1 ≤ 2147483648 then
                some (.inl ((v4, all v5 ++ [V.int .u8 (wu8 (wordShr .u64 v4 (wu64 (w64 (8 * v6)))))], w64 (v6 - 1))))
              else
                none
          else
            some (.inr ((all v5, 0)))) ((v1, v0, w64 (v2 - 1)))
      else
        none
noncomputable def fn_affiantref01_Put : Fn := ⟨24, [.v (.lst true 1), .v (.int .u64), .v (.int .i64)], .pure (.tup [.t (.own 5), .t (.v (.int .i64))]) 3, F_affiantref01_Put⟩
theorem t_affiantref01_Put : GoodAt Tryz.prog HH HSP 1 fn_affiantref01_Put := goodAt_of (ho := HO) (l := []) rfl hl0 fun x => by kernel_rfl

noncomputable def F_affiantref20_Put : Ps [.v (.lst true 1), .v (.lst true 1)] → Option (Rc.I (.pure (.tup [.t (.own 5), .t (.v (.int .i64))]) 2)) := fun ((v0, v1) : ((List V) × (List V))) =>
  (F_affiantref04_Bits v1 : Option Int).bind fun (v2 : Int) =>
  if decide (v2 > 16384) = true then
      some ((nilV, 4))
    else
      (F_affiantref01_Put (v0, wu64 v2, 2) : Option ((List V) × Int)).bind fun ((v3, v4) : ((List V) × Int)) =>
      (F_affiantref04_Bytes v1 : Option (List V)).bind fun (v5 : (List V)) =>
        if List.length (all v3) + List.length (all v5) ≤ 2147483648 then
            some ((all v3 ++ all v5, 0))
          else
            none
noncomputable def fn_affiantref20_Put : Fn := ⟨106, [.v (.lst true 1), .v (.lst true 1)], .pure (.tup [.t (.own 5), .t (.v (.int .i64))]) 2, F_affiantref20_Put⟩
theorem t_affiantref20_Put : GoodAt Tryz.prog HH HSP 5 fn_affiantref20_Put := goodAt_of (ho := HO) (l := [fn_affiantref04_Bits, fn_affiantref01_Put, fn_affiantref04_Bytes]) rfl (hl1 (t_affiantref04_Bits.up (by decide)) (hl1 (t_affiantref01_Put.up (by decide)) (hl1 (t_affiantref04_Bytes.up (by decide)) hl0))) fun x => by kernel_rfl

noncomputable def F_affiantref04_Whole : Ps [.v (.lst false 1)] → Option (Rc.I (.pure (.one (.t (.own 34))) 1)) := fun (v0 : (List V)) =>
  (F_affiantref04_trim v0 : Option (List V)).bind fun (v1 : (List V)) =>
  loopO (σ := ((List V) × ((List V) × Int))) (R := (List V)) (fun (v2, v3, v4) =>
      if decide (v4 < len v2) = true then
        if 0 ≤ v4 then
          (v2[Int.toNat v4]?).bind fun v5 =>
          (V.int? .u64 v5).bind fun v6 =>
            (if decide (w64 (v4 + 1) < len v2) = true then
                  if 0 ≤ w64 (v4 + 1) then
                    (v2[Int.toNat (w64 (v4 + 1))]?).bind fun v7 =>
                    (V.int? .u64 v7).bind fun v8 =>
                      some (.inl ((v2, v4, wu64 (v6 + wu64 (v8 * 65536)))))
                  else
                    none
                else
                  some (.inl ((v2, v4, v6))) : Option (((List V) × (Int × Int)) ⊕ (((List V) × ((List V) × Int)) ⊕ (List V)))).bind fun v9 =>
              match v9 with
                | .inl (v10, v11, v12) =>
                  if List.length (all v3) + 1 ≤ 2147483648 then
                    some (.inl ((v10, all v3 ++ [V.int .u32 (wu32 v12)], w64 (v11 + 2))))
                  else
                    none
                | .inr v13 =>
                  some (v13)
        else
          none
      else
        some (.inr (all v3))) ((v1, nilV, 0))
noncomputable def fn_affiantref04_Whole : Fn := ⟨115, [.v (.lst false 1)], .pure (.one (.t (.own 34))) 1, F_affiantref04_Whole⟩
theorem t_affiantref04_Whole : GoodAt Tryz.prog HH HSP 2 fn_affiantref04_Whole := goodAt_of (ho := HO) (l := [fn_affiantref04_trim]) rfl (hl1 (t_affiantref04_trim.up (by decide)) hl0) fun x => by kernel_rfl

noncomputable def F_affiantref04_Read : Ps [.v (.lst true 1)] → Option (Rc.I (.pure (.one (.t (.own 34))) 1)) := fun (v0 : (List V)) =>
  if 0 ≤ w64 (w64 (Int.tdiv (len v0) 2) + 1) ∧ w64 (w64 (Int.tdiv (len v0) 2) + 1) ≤ w64 (w64 (Int.tdiv (len v0) 2) + 1) ∧ w64 (w64 (Int.tdiv (len v0) 2) + 1) ≤ 2147483648 then
    loopO (σ := ((List V) × ((List V) × Int))) (R := (List V)) (fun (v1, v2, v3) =>
      if decide (v3 < len v1) = true then
        if 0 ≤ w64 (w64 (len v1 - 1) - v3) then
          (v1[Int.toNat (w64 (w64 (len v1 - 1) - v3))]?).bind fun v4 =>
          (V.int? .u8 v4).bind fun v5 =>
            (if (Int.tmod v3 2 == 1) = true then
                  some (.inl (wu64 (wu64 v5 * 256)))
                else
                  some (.inl (wu64 v5)) : Option (Int ⊕ (((List V) × ((List V) × Int)) ⊕ (List V)))).bind fun v6 =>
              match v6 with
                | .inl v7 =>
                  if 0 ≤ w64 (Int.tdiv v3 2) ∧ w64 (Int.tdiv v3 2) < len v2 then
                    (v2[0 + Int.toNat (w64 (Int.tdiv v3 2))]?).bind fun v8 =>
                    ((V.cells v8)[0]?).bind fun v9 =>
                      (V.int? .u64 v9).bind fun v10 =>
                        if 0 ≤ w64 (Int.tdiv v3 2) ∧ w64 (Int.tdiv v3 2) < len v2 then
                            (v2[0 + Int.toNat (w64 (Int.tdiv v3 2))]?).bind fun v11 =>
                            some (.inl ((v1, List.set v2 (0 + Int.toNat (w64 (Int.tdiv v3 2))) (storeEl v11 0 [V.int .u64 (wu64 (v10 + v7))]), w64 (v3 + 1))))
                          else
                            none
                  else
                    none
                | .inr v12 =>
                  some (v12)
        else
          none
      else
        ((F_affiantref04_Whole (all v2) : Option (List V)).bind fun (v13 : (List V)) =>
          some (v13) : Option (List V)).bind fun v14 =>
        some (.inr (v14))) ((v0, rep (Int.toNat (w64 (w64 (Int.tdiv (len v0) 2) + 1))) (V.int .u64 0), 0))
  else
    none
noncomputable def fn_affiantref04_Read : Fn := ⟨82, [.v (.lst true 1)], .pure (.one (.t (.own 34))) 1, F_affiantref04_Read⟩
theorem t_affiantref04_Read : GoodAt Tryz.prog HH HSP 3 fn_affiantref04_Read := goodAt_of (ho := HO) (l := [fn_affiantref04_Whole]) rfl (hl1 (t_affiantref04_Whole.up (by decide)) hl0) fun x => by kernel_rfl

noncomputable def F_affiantref22_width : Ps [.v (.int .i64)] → Option (Rc.I (.pure (.one (.t (.v (.int .i64)))) 1)) := fun (v0 : Int) =>
  if (v0 == 6) = true then
    some (4)
  else
    some (2)
noncomputable def fn_affiantref22_width : Fn := ⟨83, [.v (.int .i64)], .pure (.one (.t (.v (.int .i64)))) 1, F_affiantref22_width⟩
theorem t_affiantref22_width : GoodAt Tryz.prog HH HSP 1 fn_affiantref22_width := goodAt_of (ho := HO) (l := []) rfl hl0 fun x => by kernel_rfl

noncomputable def F_affiantref21_Emit : Ps [.v (.lst true 3)] → Option (Rc.I (.pure (.tup [.t (.own 5), .t (.v (.int .i64))]) 1)) := fun (v0 : (List V)) =>
  loopO (σ := ((List V) × ((List V) × (Int × ((List V) × Int))))) (R := ((List V) × Int)) (fun (v1, v2, v3, v4, v5) =>
    if decide (v5 < len v1) = true then
      (if 0 ≤ v5 then
          (v1[Int.toNat v5]?).bind fun v6 =>
          (V.st? [Cc.int .i64, Cc.bool, Cc.lst false 1] v6).bind fun (v7, v8, v9) =>
            if decide (v7 < 0) = false then
                if 0 ≤ v5 then
                  (v1[Int.toNat v5]?).bind fun v10 =>
                  (V.st? [Cc.int .i64, Cc.bool, Cc.lst false 1] v10).bind fun (v11, v12, v13) =>
                    some (decide (v11 > 127))
                else
                  none
              else
                some (true)
        else
          none : Option Bool).bind fun v14 =>
      if v14 = true then
          some (.inr ((nilV, 1)))
        else
          if 0 ≤ v5 then
            (v1[Int.toNat v5]?).bind fun v15 =>
            (V.st? [Cc.int .i64, Cc.bool, Cc.lst false 1] v15).bind fun (v16, v17, v18) =>
              (if decide (w64 (len v18 + 1) < 192) = true then
                    if List.length (all v4) + 1 ≤ 2147483648 then
                      some (.inl ((all v4 ++ [V.int .u8 (wu8 (w64 (len v18 + 1)))], w64 (len v18 + 1))))
                    else
                      none
                  else
                    (if decide (w64 (len v18 + 1) < 16320) = true then
                        if List.length (all v4) + 2 ≤ 2147483648 then
                          some (.inl ((all v4 ++ [V.int .u8 (wu8 (w64 (w64 (Int.tdiv (w64 (w64 (len v18 + 1) - 192)) 256) + 192))), V.int .u8 (wu8 (w64 (w64 (len v18 + 1) - 192)))], w64 (len v18 + 1))))
                        else
                          none
                      else
                        (F_affiantref01_Put ([V.int .u8 255], wu64 (w64 (len v18 + 1)), 4) : Option ((List V) × Int)).bind fun ((v19, v20) : ((List V) × Int)) =>
                        if List.length (all v4) + List.length (all v19) ≤ 2147483648 then
                            some (.inl ((all v4 ++ all v19, w64 (len v18 + 1))))
                          else
                            none : Option (((List V) × Int) ⊕ (((List V) × Int) ⊕ (((List V) × ((List V) × (Int × ((List V) × Int)))) ⊕ ((List V) × Int))))).bind fun v21 =>
                    match v21 with
                      | .inl (v22, v23) =>
                        some (.inl ((v22, v23)))
                      | .inr v24 =>
                        some (v24) : Option (((List V) × Int) ⊕ (((List V) × ((List V) × (Int × ((List V) × Int)))) ⊕ ((List V) × Int)))).bind fun v25 =>
                match v25 with
                  | .inl (v26, v27) =>
                    if 0 ≤ v5 then
                      (v1[Int.toNat v5]?).bind fun v28 =>
                      (V.st? [Cc.int .i64, Cc.bool, Cc.lst false 1] v28).bind fun (v29, v30, v31) =>
                        if 0 ≤ v5 then
                            (v1[Int.toNat v5]?).bind fun v32 =>
                            (V.st? [Cc.int .i64, Cc.bool, Cc.lst false 1] v32).bind fun (v33, v34, v35) =>
                              (if v34 = true then
                                    some (.inl (wu8 (wu8 v29 + 128)))
                                  else
                                    some (.inl (wu8 v29)) : Option (Int ⊕ (((List V) × ((List V) × (Int × ((List V) × Int)))) ⊕ ((List V) × Int)))).bind fun v36 =>
                                match v36 with
                                  | .inl v37 =>
                                    if List.length (all v26) + 1 ≤ 2147483648 then
                                      if 0 ≤ v5 then
                                        (v1[Int.toNat v5]?).bind fun v38 =>
                                        (V.st? [Cc.int .i64, Cc.bool, Cc.lst false 1] v38).bind fun (v39, v40, v41) =>
                                          if List.length (all (all v26 ++ [V.int .u8 v37])) + List.length v41 ≤ 2147483648 then
                                              some (.inl ((v1, v2, v3, all (all v26 ++ [V.int .u8 v37]) ++ v41, w64 (v5 + 1))))
                                            else
                                              none
                                      else
                                        none
                                    else
                                      none
                                  | .inr v42 =>
                                    some (v42)
                          else
                            none
                    else
                      none
                  | .inr v43 =>
                    some (v43)
          else
            none
    else
      ((if decide (len v1 > 40) = false then
            some (decide (len v4 > 4000))
          else
            some (true) : Option Bool).bind fun v44 =>
        if v44 = true then
            some ((nilV, 4))
          else
            some ((all v4, 0)) : Option ((List V) × Int)).bind fun (v45, v46) =>
      some (.inr ((v45, v46)))) ((v0, nilV, 0, nilV, 0))
noncomputable def fn_affiantref21_Emit : Fn := ⟨49, [.v (.lst true 3)], .pure (.tup [.t (.own 5), .t (.v (.int .i64))]) 1, F_affiantref21_Emit⟩
theorem t_affiantref21_Emit : GoodAt Tryz.prog HH HSP 2 fn_affiantref21_Emit := goodAt_of (ho := HO) (l := [fn_affiantref01_Put]) rfl (hl1 (t_affiantref01_Put.up (by decide)) hl0) fun x => by kernel_rfl

noncomputable def F_affiantref22_area : Ps [.v (.lst true 1), .v (.lst true 3), .v (.int .i64)] → Option (Rc.I (.pure (.tup [.t (.own 5), .t (.v (.int .i64))]) 3)) := fun ((v0, v1, v2) : ((List V) × ((List V) × Int))) =>
  (F_affiantref21_Emit v1 : Option ((List V) × Int)).bind fun ((v3, v4) : ((List V) × Int)) =>
  if (v4 != 0) = true then
      some ((nilV, v4))
    else
      (F_affiantref22_width v2 : Option Int).bind fun (v5 : Int) =>
      (F_affiantref01_Put (v0, wu64 (len v3), v5) : Option ((List V) × Int)).bind fun ((v6, v7) : ((List V) × Int)) =>
        if List.length (all v6) + List.length (all v3) ≤ 2147483648 then
            some ((all v6 ++ all v3, 0))
          else
            none
noncomputable def fn_affiantref22_area : Fn := ⟨51, [.v (.lst true 1), .v (.lst true 3), .v (.int .i64)], .pure (.tup [.t (.own 5), .t (.v (.int .i64))]) 3, F_affiantref22_area⟩
theorem t_affiantref22_area : GoodAt Tryz.prog HH HSP 3 fn_affiantref22_area := goodAt_of (ho := HO) (l := [fn_affiantref21_Emit, fn_affiantref22_width, fn_affiantref01_Put]) rfl (hl1 (t_affiantref21_Emit.up (by decide)) (hl1 (t_affiantref22_width.up (by decide)) (hl1 (t_affiantref01_Put.up (by decide)) hl0))) fun x => by kernel_rfl

noncomputable def F_affiantref22_SaltSize : Ps [.v (.int .i64)] → Option (Rc.I (.pure (.one (.t (.v (.int .i64)))) 1)) := fun (v0 : Int) =>
  (if (v0 == 11) = true then
      some (.inl ((v0, v0 == 11)))
    else
      some (.inl ((v0, v0 == 8))) : Option ((Int × Bool) ⊕ Int)).bind fun v1 =>
  match v1 with
    | .inl (v2, v3) =>
      if v3 = true then
        some (16)
      else
        if (v2 == 9) = true then
          some (24)
        else
          if (v2 == 10) = true then
            some (32)
          else
            some (0)
    | .inr v4 =>
      some (v4)
noncomputable def fn_affiantref22_SaltSize : Fn := ⟨80, [.v (.int .i64)], .pure (.one (.t (.v (.int .i64)))) 1, F_affiantref22_SaltSize⟩
theorem t_affiantref22_SaltSize : GoodAt Tryz.prog HH HSP 1 fn_affiantref22_SaltSize := goodAt_of (ho := HO) (l := []) rfl hl0 fun x => by kernel_rfl

noncomputable def F_affiantref09_Size : Ps [.v (.int .i64)] → Option (Rc.I (.pure (.one (.t (.v (.int .i64)))) 1)) := fun (v0 : Int) =>
  if (v0 == 2) = true then
    some (20)
  else
    if (v0 == 8) = true then
      some (32)
    else
      if (v0 == 9) = true then
        some (48)
      else
        if (v0 == 10) = true then
          some (64)
        else
          if (v0 == 11) = true then
            some (28)
          else
            some (0)
noncomputable def fn_affiantref09_Size : Fn := ⟨78, [.v (.int .i64)], .pure (.one (.t (.v (.int .i64)))) 1, F_affiantref09_Size⟩
theorem t_affiantref09_Size : GoodAt Tryz.prog HH HSP 1 fn_affiantref09_Size := goodAt_of (ho := HO) (l := []) rfl hl0 fun x => by kernel_rfl

noncomputable def F_affiantref09_Weak : Ps [.v (.int .i64)] → Option (Rc.I (.pure (.one (.t (.v .bool))) 1)) := fun (v0 : Int) =>
  (if (v0 == 2) = false then
      (F_affiantref09_Size v0 : Option Int).bind fun (v1 : Int) =>
      some (v1 == 0)
    else
      some (true) : Option Bool).bind fun v2 =>
  some (v2)
noncomputable def fn_affiantref09_Weak : Fn := ⟨79, [.v (.int .i64)], .pure (.one (.t (.v .bool))) 1, F_affiantref09_Weak⟩
theorem t_affiantref09_Weak : GoodAt Tryz.prog HH HSP 2 fn_affiantref09_Weak := goodAt_of (ho := HO) (l := [fn_affiantref09_Size]) rfl (hl1 (t_affiantref09_Size.up (by decide)) hl0) fun x => by kernel_rfl

noncomputable def F_affiantref22_may : Ps [.v (.st rapi_Sig)] → Option (Rc.I (.pure (.one (.t (.v .bool))) 1)) := fun ((v0, v1, v2, v3, v4, v5, v6, v7, v8, v9) : (Int × (Int × (Int × (Int × ((List V) × ((List V) × (Int × (Int × ((List V) × (List V))))))))))) =>
  (if (v0 != 4) = true then
      if (v0 != 6) = false then
        if decide (v1 < 0) = false then
          if decide (v1 > 255) = false then
            if (v2 != 1) = true then
              if (v2 != 27) = false then
                (F_affiantref09_Size v3 : Option Int).bind fun (v10 : Int) =>
                if (v10 == 0) = false then
                    if (v0 == 6) = true then
                      (F_affiantref09_Weak v3 : Option Bool).bind fun (v11 : Bool) =>
                      some (v11)
                    else
                      some (false)
                  else
                    some (true)
              else
                some (true)
            else
              (F_affiantref09_Size v3 : Option Int).bind fun (v12 : Int) =>
              if (v12 == 0) = false then
                  if (v0 == 6) = true then
                    (F_affiantref09_Weak v3 : Option Bool).bind fun (v13 : Bool) =>
                    some (v13)
                  else
                    some (false)
                else
                  some (true)
          else
            some (true)
        else
          some (true)
      else
        some (true)
    else
      if decide (v1 < 0) = false then
        if decide (v1 > 255) = false then
          if (v2 != 1) = true then
            if (v2 != 27) = false then
              (F_affiantref09_Size v3 : Option Int).bind fun (v14 : Int) =>
              if (v14 == 0) = false then
                  if (v0 == 6) = true then
                    (F_affiantref09_Weak v3 : Option Bool).bind fun (v15 : Bool) =>
                    some (v15)
                  else
                    some (false)
                else
                  some (true)
            else
              some (true)
          else
            (F_affiantref09_Size v3 : Option Int).bind fun (v16 : Int) =>
            if (v16 == 0) = false then
                if (v0 == 6) = true then
                  (F_affiantref09_Weak v3 : Option Bool).bind fun (v17 : Bool) =>
                  some (v17)
                else
                  some (false)
              else
                some (true)
        else
          some (true)
      else
        some (true) : Option Bool).bind fun v18 =>
  if v18 = true then
      some (false)
    else
      (if (v0 == 4) = true then
          if decide (len v8 > 0) = false then
            if (v0 == 6) = true then
              (F_affiantref22_SaltSize v3 : Option Int).bind fun (v19 : Int) =>
              some (len v8 != v19)
            else
              some (false)
          else
            some (true)
        else
          if (v0 == 6) = true then
            (F_affiantref22_SaltSize v3 : Option Int).bind fun (v20 : Int) =>
            some (len v8 != v20)
          else
            some (false) : Option Bool).bind fun v21 =>
      if v21 = true then
          some (false)
        else
          if (v2 == 27) = true then
            some (len v9 == 64)
          else
            (if (len v9 == 0) = false then
                (v9[0]?).bind fun v22 =>
                (V.int? .u8 v22).bind fun v23 =>
                  if (v23 != 0) = true then
                      (F_affiantref04_Read v9 : Option (List V)).bind fun (v24 : (List V)) =>
                      (F_affiantref04_Bits (all v24) : Option Int).bind fun (v25 : Int) =>
                        some (decide (v25 ≤ 16384))
                    else
                      some (false)
              else
                (F_affiantref04_Read v9 : Option (List V)).bind fun (v26 : (List V)) =>
                (F_affiantref04_Bits (all v26) : Option Int).bind fun (v27 : Int) =>
                  some (decide (v27 ≤ 16384)) : Option Bool).bind fun v28 =>
            some (v28)
noncomputable def fn_affiantref22_may : Fn := ⟨50, [.v (.st rapi_Sig)], .pure (.one (.t (.v .bool))) 1, F_affiantref22_may⟩
theorem t_affiantref22_may : GoodAt Tryz.prog HH HSP 4 fn_affiantref22_may := goodAt_of (ho := HO) (l := [fn_affiantref09_Size, fn_affiantref09_Weak, fn_affiantref22_SaltSize, fn_affiantref04_Read, fn_affiantref04_Bits]) rfl (hl1 (t_affiantref09_Size.up (by decide)) (hl1 (t_affiantref09_Weak.up (by decide)) (hl1 (t_affiantref22_SaltSize.up (by decide)) (hl1 (t_affiantref04_Read.up (by decide)) (hl1 (t_affiantref04_Bits.up (by decide)) hl0))))) fun x => by kernel_rfl

noncomputable def F_affiantref22_Hashed : Ps [.v (.st rapi_Sig)] → Option (Rc.I (.pure (.tup [.t (.own 5), .t (.v (.int .i64))]) 1)) := fun ((v0, v1, v2, v3, v4, v5, v6, v7, v8, v9) : (Int × (Int × (Int × (Int × ((List V) × ((List V) × (Int × (Int × ((List V) × (List V))))))))))) =>
  (F_affiantref21_Emit v4 : Option ((List V) × Int)).bind fun ((v10, v11) : ((List V) × Int)) =>
  (F_affiantref21_Emit v5 : Option ((List V) × Int)).bind fun ((v12, v13) : ((List V) × Int)) =>
    ((F_affiantref22_may (v0, v1, v2, v3, v4, v5, v6, v7, v8, v9) : Option Bool).bind fun (v14 : Bool) =>
        if (!v14) = false then
            if (v11 == 1) = false then
              some (v13 == 1)
            else
              some (true)
          else
            some (true) : Option Bool).bind fun v15 =>
      if v15 = true then
          some ((nilV, 1))
        else
          (if (v11 != 0) = false then
              some (v13 != 0)
            else
              some (true) : Option Bool).bind fun v16 =>
          if v16 = true then
              some ((nilV, 4))
            else
              (F_affiantref22_area ([V.int .u8 (wu8 v0), V.int .u8 (wu8 v1), V.int .u8 (wu8 v2), V.int .u8 (wu8 v3)], v4, v0) : Option ((List V) × Int)).bind fun ((v17, v18) : ((List V) × Int)) =>
              some ((v17, v18))
noncomputable def fn_affiantref22_Hashed : Fn := ⟨23, [.v (.st rapi_Sig)], .pure (.tup [.t (.own 5), .t (.v (.int .i64))]) 1, F_affiantref22_Hashed⟩
theorem t_affiantref22_Hashed : GoodAt Tryz.prog HH HSP 5 fn_affiantref22_Hashed := goodAt_of (ho := HO) (l := [fn_affiantref21_Emit, fn_affiantref22_may, fn_affiantref22_area]) rfl (hl1 (t_affiantref21_Emit.up (by decide)) (hl1 (t_affiantref22_may.up (by decide)) (hl1 (t_affiantref22_area.up (by decide)) hl0))) fun x => by kernel_rfl

noncomputable def F_affiantref22_Emit : Ps [.v (.st rapi_Sig)] → Option (Rc.I (.pure (.tup [.t (.own 5), .t (.v (.int .i64))]) 1)) := fun ((v0, v1, v2, v3, v4, v5, v6, v7, v8, v9) : (Int × (Int × (Int × (Int × ((List V) × ((List V) × (Int × (Int × ((List V) × (List V))))))))))) =>
  (F_affiantref22_Hashed (v0, v1, v2, v3, v4, v5, v6, v7, v8, v9) : Option ((List V) × Int)).bind fun ((v10, v11) : ((List V) × Int)) =>
  if (v11 != 0) = true then
      some ((nilV, v11))
    else
      (F_affiantref22_area (all v10, v5, v0) : Option ((List V) × Int)).bind fun ((v12, v13) : ((List V) × Int)) =>
      if List.length (all v12) + 2 ≤ 2147483648 then
          (if (v0 == 6) = true then
              if List.length (all (all v12 ++ [V.int .u8 v6, V.int .u8 v7])) + 1 ≤ 2147483648 then
                if List.length (all (all (all v12 ++ [V.int .u8 v6, V.int .u8 v7]) ++ [V.int .u8 (wu8 (len v8))])) + List.length v8 ≤ 2147483648 then
                  some (.inl (((v0, v1, v2, v3, v4, v5, v6, v7, v8, v9), all (all (all v12 ++ [V.int .u8 v6, V.int .u8 v7]) ++ [V.int .u8 (wu8 (len v8))]) ++ v8)))
                else
                  none
              else
                none
            else
              some (.inl (((v0, v1, v2, v3, v4, v5, v6, v7, v8, v9), all v12 ++ [V.int .u8 v6, V.int .u8 v7]))) : Option (((Int × (Int × (Int × (Int × ((List V) × ((List V) × (Int × (Int × ((List V) × (List V)))))))))) × (List V)) ⊕ ((List V) × Int))).bind fun v14 =>
          match v14 with
            | .inl ((v15, v16, v17, v18, v19, v20, v21, v22, v23, v24), v25) =>
              if (v17 == 1) = true then
                (F_affiantref04_Read v24 : Option (List V)).bind fun (v26 : (List V)) =>
                (F_affiantref20_Put (all v25, all v26) : Option ((List V) × Int)).bind fun ((v27, v28) : ((List V) × Int)) =>
                  some ((v27, v28))
              else
                if List.length (all v25) + List.length v24 ≤ 2147483648 then
                  some ((all v25 ++ v24, 0))
                else
                  none
            | .inr (v29, v30) =>
              some ((v29, v30))
        else
          none
noncomputable def fn_affiantref22_Emit : Fn := ⟨74, [.v (.st rapi_Sig)], .pure (.tup [.t (.own 5), .t (.v (.int .i64))]) 1, F_affiantref22_Emit⟩
theorem t_affiantref22_Emit : GoodAt Tryz.prog HH HSP 6 fn_affiantref22_Emit := goodAt_of (ho := HO) (l := [fn_affiantref22_Hashed, fn_affiantref22_area, fn_affiantref04_Read, fn_affiantref20_Put]) rfl (hl1 (t_affiantref22_Hashed.up (by decide)) (hl1 (t_affiantref22_area.up (by decide)) (hl1 (t_affiantref04_Read.up (by decide)) (hl1 (t_affiantref20_Put.up (by decide)) hl0)))) fun x => by kernel_rfl

noncomputable def F_affiantref27_signatures : Ps [.v (.lst true 10)] → Option (Rc.I (.pure (.tup [.t (.own 68), .t (.v .bool)]) 1)) := fun (v0 : (List V)) =>
  loopO (σ := ((List V) × ((List V) × (Bool × ((List V) × Int))))) (R := ((List V) × Bool)) (fun (v1, v2, v3, v4, v5) =>
    if decide (v5 < len v1) = true then
      if 0 ≤ v5 then
        (v1[Int.toNat v5]?).bind fun v6 =>
        (V.st? [Cc.int .i64, Cc.int .i64, Cc.int .i64, Cc.int .i64, Cc.lst false 3, Cc.lst false 3, Cc.int .u8, Cc.int .u8, Cc.lst false 1, Cc.lst false 1] v6).bind fun (v7, v8, v9, v10, v11, v12, v13, v14, v15, v16) =>
          (F_affiantref22_Emit (v7, v8, v9, v10, v11, v12, v13, v14, v15, v16) : Option ((List V) × Int)).bind fun ((v17, v18) : ((List V) × Int)) =>
            if (v18 != 0) = true then
                some (.inr ((nilV, false)))
              else
                if List.length (all v4) + 1 ≤ 2147483648 then
                  some (.inl ((v1, v2, v3, all v4 ++ [V.agg [V.int .i64 2, V.sl false false 1 (all v17)]], w64 (v5 + 1))))
                else
                  none
      else
        none
    else
      some (.inr ((all v4, true)))) ((v0, nilV, false, nilV, 0))
noncomputable def fn_affiantref27_signatures : Fn := ⟨40, [.v (.lst true 10)], .pure (.tup [.t (.own 68), .t (.v .bool)]) 1, F_affiantref27_signatures⟩
theorem t_affiantref27_signatures : GoodAt Tryz.prog HH HSP 7 fn_affiantref27_signatures := goodAt_of (ho := HO) (l := [fn_affiantref22_Emit]) rfl (hl1 (t_affiantref22_Emit.up (by decide)) hl0) fun x => by kernel_rfl

noncomputable def F_affiantref23_material : Ps [.v (.st rapi_Key)] → Option (Rc.I (.pure (.one (.t (.v (.lst false 1)))) 1)) := fun ((v0, v1, v2, v3, v4, v5) : (Int × (Int × (Int × ((List V) × ((List V) × (List Int))))))) =>
  if (v2 == 27) = true then
    some (List.take 32 (List.drop 5 (V.int .i64 v0 :: V.int .u32 v1 :: V.int .i64 v2 :: V.sl false false 1 v3 :: V.sl false false 1 v4 :: arrV .u8 v5 0 32)))
  else
    (F_affiantref20_Put (nilV, v3) : Option ((List V) × Int)).bind fun ((v6, v7) : ((List V) × Int)) =>
    (F_affiantref20_Put (all v6, v4) : Option ((List V) × Int)).bind fun ((v8, v9) : ((List V) × Int)) =>
      some (all v8)
noncomputable def fn_affiantref23_material : Fn := ⟨73, [.v (.st rapi_Key)], .pure (.one (.t (.v (.lst false 1)))) 1, F_affiantref23_material⟩
theorem t_affiantref23_material : GoodAt Tryz.prog HH HSP 6 fn_affiantref23_material := goodAt_of (ho := HO) (l := [fn_affiantref20_Put]) rfl (hl1 (t_affiantref20_Put.up (by decide)) hl0) fun x => by kernel_rfl

noncomputable def F_affiantref23_may : Ps [.v (.st rapi_Key)] → Option (Rc.I (.pure (.one (.t (.v .bool))) 1)) := fun ((v0, v1, v2, v3, v4, v5) : (Int × (Int × (Int × ((List V) × ((List V) × (List Int))))))) =>
  (if (v0 != 4) = true then
      some (v0 != 6)
    else
      some (false) : Option Bool).bind fun v6 =>
  if v6 = true then
      some (false)
    else
      if (v2 == 27) = true then
        (if (len v3 == 0) = true then
            some (len v4 == 0)
          else
            some (false) : Option Bool).bind fun v7 =>
        some (v7)
      else
        (if (v2 == 1) = true then
            if (fitI (fitI v5 0 32) 0 32 == rep 32 0) = true then
              (F_affiantref04_Bits v3 : Option Int).bind fun (v8 : Int) =>
              if decide (v8 ≤ 16384) = true then
                  (F_affiantref04_Bits v4 : Option Int).bind fun (v9 : Int) =>
                  some (decide (v9 ≤ 16384))
                else
                  some (false)
            else
              some (false)
          else
            some (false) : Option Bool).bind fun v10 =>
        some (v10)
noncomputable def fn_affiantref23_may : Fn := ⟨72, [.v (.st rapi_Key)], .pure (.one (.t (.v .bool))) 1, F_affiantref23_may⟩
theorem t_affiantref23_may : GoodAt Tryz.prog HH HSP 4 fn_affiantref23_may := goodAt_of (ho := HO) (l := [fn_affiantref04_Bits]) rfl (hl1 (t_affiantref04_Bits.up (by decide)) hl0) fun x => by kernel_rfl

noncomputable def F_affiantref23_Emit : Ps [.v (.st rapi_Key)] → Option (Rc.I (.pure (.tup [.t (.own 5), .t (.v (.int .i64))]) 1)) := fun ((v0, v1, v2, v3, v4, v5) : (Int × (Int × (Int × ((List V) × ((List V) × (List Int))))))) =>
  (F_affiantref23_may (v0, v1, v2, v3, v4, fitI v5 0 32) : Option Bool).bind fun (v6 : Bool) =>
  if (!v6) = true then
      some ((nilV, 1))
    else
      (F_affiantref01_Put ([V.int .u8 (wu8 v0)], wu64 v1, 4) : Option ((List V) × Int)).bind fun ((v7, v8) : ((List V) × Int)) =>
      if List.length (all v7) + 1 ≤ 2147483648 then
          (F_affiantref23_material (v0, v1, v2, v3, v4, fitI v5 0 32) : Option (List V)).bind fun (v9 : (List V)) =>
          (if (v0 == 6) = true then
                (F_affiantref01_Put (all (all v7 ++ [V.int .u8 (wu8 v2)]), wu64 (len v9), 4) : Option ((List V) × Int)).bind fun ((v10, v11) : ((List V) × Int)) =>
                some (.inl ((v10, v9)))
              else
                some (.inl ((all v7 ++ [V.int .u8 (wu8 v2)], v9))) : Option (((List V) × (List V)) ⊕ ((List V) × Int))).bind fun v12 =>
            match v12 with
              | .inl (v13, v14) =>
                if List.length (all v13) + List.length v14 ≤ 2147483648 then
                  some ((all v13 ++ v14, 0))
                else
                  none
              | .inr (v15, v16) =>
                some ((v15, v16))
        else
          none
noncomputable def fn_affiantref23_Emit : Fn := ⟨39, [.v (.st rapi_Key)], .pure (.tup [.t (.own 5), .t (.v (.int .i64))]) 1, F_affiantref23_Emit⟩
theorem t_affiantref23_Emit : GoodAt Tryz.prog HH HSP 7 fn_affiantref23_Emit := goodAt_of (ho := HO) (l := [fn_affiantref23_may, fn_affiantref01_Put, fn_affiantref23_material]) rfl (hl1 (t_affiantref23_may.up (by decide)) (hl1 (t_affiantref01_Put.up (by decide)) (hl1 (t_affiantref23_material.up (by decide)) hl0))) fun x => by kernel_rfl

noncomputable def F_affiantref24_IsName : Ps [.v .str] → Option (Rc.I (.pure (.one (.t (.v .bool))) 1)) := fun (v0 : (List UInt8)) =>
  loopO (σ := ((List UInt8) × (Bool × Int))) (R := Bool) (fun (v1, v2, v3) =>
    if decide (v3 < len v1) = true then
      if 0 ≤ v3 then
        (v1[Int.toNat v3]?).bind fun v4 =>
        if decide ((↑(UInt8.toNat v4) : Int) < 32) = true then
            some (.inr (false))
          else
            some (.inl ((v1, v2, w64 (v3 + 1))))
      else
        none
    else
      some (.inr (decide (len v1 ≤ 500)))) ((v0, false, 0))
noncomputable def fn_affiantref24_IsName : Fn := ⟨41, [.v .str], .pure (.one (.t (.v .bool))) 1, F_affiantref24_IsName⟩
theorem t_affiantref24_IsName : GoodAt Tryz.prog HH HSP 1 fn_affiantref24_IsName := goodAt_of (ho := HO) (l := []) rfl hl0 fun x => by kernel_rfl

noncomputable def F_affiantref27_Emit : Ps [.v (.st rapi_Cert)] → Option (Rc.I (.pure (.tup [.t (.own 68), .t (.v (.int .i64))]) 1)) := fun ((v0, v1, v2, v3, v4, v5, v6, v7, v8) : (Int × (Int × (Int × ((List V) × ((List V) × ((List Int) × ((List V) × ((List V) × (List V)))))))))) =>
  (F_affiantref23_Emit (v0, v1, v2, v3, v4, fitI v5 0 32) : Option ((List V) × Int)).bind fun ((v9, v10) : ((List V) × Int)) =>
  (F_affiantref27_signatures v6 : Option ((List V) × Bool)).bind fun ((v11, v12) : ((List V) × Bool)) =>
    (if v12 = true then
          some (v10 == 0)
        else
          some (false) : Option Bool).bind fun v13 =>
      if 1 + List.length (all v11) ≤ 2147483648 then
          loopO (σ := ((Int × (Int × (Int × ((List V) × ((List V) × ((List Int) × ((List V) × ((List V) × (List V))))))))) × (Bool × ((List V) × Int)))) (R := ((List V) × Int)) (fun ((v14, v15, v16, v17, v18, v19, v20, v21, v22), v23, v24, v25) =>
            if decide (v25 < len v21) = true then
              if 0 ≤ v25 then
                (v21[Int.toNat v25]?).bind fun v26 =>
                (V.st? [Cc.str, Cc.lst false 10] v26).bind fun (v27, v28) =>
                  (F_affiantref27_signatures v28 : Option ((List V) × Bool)).bind fun ((v29, v30) : ((List V) × Bool)) =>
                    (if v23 = true then
                          if v30 = true then
                            if 0 ≤ v25 then
                              (v21[Int.toNat v25]?).bind fun v31 =>
                              (V.st? [Cc.str, Cc.lst false 10] v31).bind fun (v32, v33) =>
                                (F_affiantref24_IsName v32 : Option Bool).bind fun (v34 : Bool) =>
                                  some (v34)
                            else
                              none
                          else
                            some (false)
                        else
                          some (false) : Option Bool).bind fun v35 =>
                      if 0 ≤ v25 then
                          (v21[Int.toNat v25]?).bind fun v36 =>
                          (V.st? [Cc.str, Cc.lst false 10] v36).bind fun (v37, v38) =>
                            if List.length v37 ≤ 2147483648 then
                                if List.length (all v24) + 1 ≤ 2147483648 then
                                  if List.length (all (all v24 ++ [V.agg [V.int .i64 13, V.sl false false 1 (bytesV v37)]])) + List.length (all v29) ≤ 2147483648 then
                                    some (.inl (((v14, v15, v16, v17, v18, fitI v19 0 32, v20, v21, v22), v35, all (all v24 ++ [V.agg [V.int .i64 13, V.sl false false 1 (bytesV v37)]]) ++ all v29, w64 (v25 + 1))))
                                  else
                                    none
                                else
                                  none
                              else
                                none
                        else
                          none
              else
                none
            else
              (loopO (σ := ((Int × (Int × (Int × ((List V) × ((List V) × ((List Int) × ((List V) × ((List V) × (List V))))))))) × (Bool × ((List V) × Int)))) (R := ((List V) × Int)) (fun ((v39, v40, v41, v42, v43, v44, v45, v46, v47), v48, v49, v50) =>
                  if decide (v50 < len v47) = true then
                    if 0 ≤ v50 then
                      (v47[Int.toNat v50]?).bind fun v51 =>
                      (V.st? [Cc.int .i64, Cc.int .u32, Cc.int .i64, Cc.lst false 1, Cc.lst false 1, Cc.arr .u8 32, Cc.lst false 10] v51).bind fun (v52, v53, v54, v55, v56, v57, v58) =>
                        (F_affiantref23_Emit (v52, v53, v54, v55, v56, fitI (fitI v57 0 32) 0 32) : Option ((List V) × Int)).bind fun ((v59, v60) : ((List V) × Int)) =>
                          if 0 ≤ v50 then
                              (v47[Int.toNat v50]?).bind fun v61 =>
                              (V.st? [Cc.int .i64, Cc.int .u32, Cc.int .i64, Cc.lst false 1, Cc.lst false 1, Cc.arr .u8 32, Cc.lst false 10] v61).bind fun (v62, v63, v64, v65, v66, v67, v68) =>
                                (F_affiantref27_signatures v68 : Option ((List V) × Bool)).bind fun ((v69, v70) : ((List V) × Bool)) =>
                                  (if v48 = true then
                                        if v70 = true then
                                          some (v60 == 0)
                                        else
                                          some (false)
                                      else
                                        some (false) : Option Bool).bind fun v71 =>
                                    if List.length (all v49) + 1 ≤ 2147483648 then
                                        if List.length (all (all v49 ++ [V.agg [V.int .i64 14, V.sl false false 1 (all v59)]])) + List.length (all v69) ≤ 2147483648 then
                                          some (.inl (((v39, v40, v41, v42, v43, fitI v44 0 32, v45, v46, v47), v71, all (all v49 ++ [V.agg [V.int .i64 14, V.sl false false 1 (all v59)]]) ++ all v69, w64 (v50 + 1))))
                                        else
                                          none
                                      else
                                        none
                            else
                              none
                    else
                      none
                  else
                    (if (!v48) = true then
                        some ((nilV, 1))
                      else
                        (F_affiantref27_limits (v39, v40, v41, v42, v43, fitI v44 0 32, v45, v46, v47) : Option Bool).bind fun (v72 : Bool) =>
                        if (!v72) = true then
                            some ((nilV, 4))
                          else
                            some ((all v49, 0)) : Option ((List V) × Int)).bind fun (v73, v74) =>
                    some (.inr ((v73, v74)))) (((v14, v15, v16, v17, v18, fitI v19 0 32, v20, v21, v22), v23, v24, 0)) : Option ((List V) × Int)).bind fun (v75, v76) =>
              some (.inr ((v75, v76)))) (((v0, v1, v2, v3, v4, fitI v5 0 32, v6, v7, v8), v13, [V.agg [V.int .i64 6, V.sl false false 1 (all v9)]] ++ all v11, 0))
        else
          none
noncomputable def fn_affiantref27_Emit : Fn := ⟨16, [.v (.st rapi_Cert)], .pure (.tup [.t (.own 68), .t (.v (.int .i64))]) 1, F_affiantref27_Emit⟩
theorem t_affiantref27_Emit : GoodAt Tryz.prog HH HSP 8 fn_affiantref27_Emit := goodAt_of (ho := HO) (l := [fn_affiantref23_Emit, fn_affiantref27_signatures, fn_affiantref24_IsName, fn_affiantref27_limits]) rfl (hl1 (t_affiantref23_Emit.up (by decide)) (hl1 (t_affiantref27_signatures.up (by decide)) (hl1 (t_affiantref24_IsName.up (by decide)) (hl1 (t_affiantref27_limits.up (by decide)) hl0)))) fun x => by kernel_rfl

noncomputable def F_affiantref27_Same : Ps [.v (.st rapi_Cert), .v (.st rapi_Cert)] → Option (Rc.I (.pure (.one (.t (.v .bool))) 2)) := fun (((v0, v1, v2, v3, v4, v5, v6, v7, v8), v9, v10, v11, v12, v13, v14, v15, v16, v17) : ((Int × (Int × (Int × ((List V) × ((List V) × ((List Int) × ((List V) × ((List V) × (List V))))))))) × (Int × (Int × (Int × ((List V) × ((List V) × ((List Int) × ((List V) × ((List V) × (List V))))))))))) =>
  (F_affiantref27_Emit (v0, v1, v2, v3, v4, fitI v5 0 32, v6, v7, v8) : Option ((List V) × Int)).bind fun ((v18, v19) : ((List V) × Int)) =>
  (F_affiantref27_Emit (v9, v10, v11, v12, v13, fitI v14 0 32, v15, v16, v17) : Option ((List V) × Int)).bind fun ((v20, v21) : ((List V) × Int)) =>
    (if (v19 == 0) = true then
          if (v21 == 0) = true then
            (F_affiantref19_Same (all v18, all v20) : Option Bool).bind fun (v22 : Bool) =>
            some (v22)
          else
            some (false)
        else
          some (false) : Option Bool).bind fun v23 =>
      some (v23)
noncomputable def fn_affiantref27_Same : Fn := ⟨19, [.v (.st rapi_Cert), .v (.st rapi_Cert)], .pure (.one (.t (.v .bool))) 2, F_affiantref27_Same⟩
theorem t_affiantref27_Same : GoodAt Tryz.prog HH HSP 9 fn_affiantref27_Same := goodAt_of (ho := HO) (l := [fn_affiantref27_Emit, fn_affiantref19_Same]) rfl (hl1 (t_affiantref27_Emit.up (by decide)) (hl1 (t_affiantref19_Same.up (by decide)) hl0)) fun x => by kernel_rfl

noncomputable def F_bytes_Equal : Ps [.v (.lst true 1), .v (.lst true 1)] → Option (Rc.I (.pure (.one (.t (.v .bool))) 2)) := fun ((v0, v1) : ((List V) × (List V))) =>
  (unbytes v0).bind fun v2 =>
  (unbytes v1).bind fun v3 =>
    some (v2 == v3)
noncomputable def fn_bytes_Equal : Fn := ⟨44, [.v (.lst true 1), .v (.lst true 1)], .pure (.one (.t (.v .bool))) 2, F_bytes_Equal⟩
theorem t_bytes_Equal : GoodAt Tryz.prog HH HSP 1 fn_bytes_Equal := goodAt_of (ho := HO) (l := []) rfl hl0 fun x => by kernel_rfl

noncomputable def F_cert_Same_1 : Ps [.v (.st rapi_Packet), .v (.st rapi_Packet)] → Option (Rc.I (.pure (.one (.t (.v .bool))) 2)) := fun (((v0, v1), v2, v3) : ((Int × (List V)) × (Int × (List V)))) =>
  (if (v0 == v2) = true then
      (F_bytes_Equal (v1, v3) : Option Bool).bind fun (v4 : Bool) =>
      some (v4)
    else
      some (false) : Option Bool).bind fun v5 =>
  some (v5)
noncomputable def fn_cert_Same_1 : Fn := ⟨43, [.v (.st rapi_Packet), .v (.st rapi_Packet)], .pure (.one (.t (.v .bool))) 2, F_cert_Same_1⟩
theorem t_cert_Same_1 : GoodAt Tryz.prog HH HSP 2 fn_cert_Same_1 := goodAt_of (ho := HO) (l := [fn_bytes_Equal]) rfl (hl1 (t_bytes_Equal.up (by decide)) hl0) fun x => by kernel_rfl

noncomputable def F_cert_tooMany : Ps [.v (.lst true 10)] → Option (Rc.I (.pure (.one (.t (.v .bool))) 1)) := fun (v0 : (List V)) =>
  some (decide (len v0 > 30))
noncomputable def fn_cert_tooMany : Fn := ⟨68, [.v (.lst true 10)], .pure (.one (.t (.v .bool))) 1, F_cert_tooMany⟩
theorem t_cert_tooMany : GoodAt Tryz.prog HH HSP 1 fn_cert_tooMany := goodAt_of (ho := HO) (l := []) rfl hl0 fun x => by kernel_rfl

noncomputable def F_cert_passes_2 : Ps [.v (.st rapi_Subkey)] → Option (Rc.I (.pure (.one (.t (.v .bool))) 1)) := fun ((v0, v1, v2, v3, v4, v5, v6) : (Int × (Int × (Int × ((List V) × ((List V) × ((List Int) × (List V)))))))) =>
  (F_cert_tooMany v6 : Option Bool).bind fun (v7 : Bool) =>
  some (v7)
noncomputable def fn_cert_passes_2 : Fn := ⟨69, [.v (.st rapi_Subkey)], .pure (.one (.t (.v .bool))) 1, F_cert_passes_2⟩
theorem t_cert_passes_2 : GoodAt Tryz.prog HH HSP 2 fn_cert_passes_2 := goodAt_of (ho := HO) (l := [fn_cert_tooMany]) rfl (hl1 (t_cert_tooMany.up (by decide)) hl0) fun x => by kernel_rfl

noncomputable def F_cert_passes_1 : Ps [.v (.st [.str, .lst false 10])] → Option (Rc.I (.pure (.one (.t (.v .bool))) 1)) := fun ((v0, v1) : ((List UInt8) × (List V))) =>
  (F_cert_tooMany v1 : Option Bool).bind fun (v2 : Bool) =>
  some (v2)
noncomputable def fn_cert_passes_1 : Fn := ⟨67, [.v (.st [.str, .lst false 10])], .pure (.one (.t (.v .bool))) 1, F_cert_passes_1⟩
theorem t_cert_passes_1 : GoodAt Tryz.prog HH HSP 2 fn_cert_passes_1 := goodAt_of (ho := HO) (l := [fn_cert_tooMany]) rfl (hl1 (t_cert_tooMany.up (by decide)) hl0) fun x => by kernel_rfl

noncomputable def F_cert_passes : Ps [.v (.st rapi_Cert)] → Option (Rc.I (.pure (.one (.t (.v .bool))) 1)) := fun ((v0, v1, v2, v3, v4, v5, v6, v7, v8) : (Int × (Int × (Int × ((List V) × ((List V) × ((List Int) × ((List V) × ((List V) × (List V)))))))))) =>
  (if decide (len v7 > 30) = false then
      if decide (len v8 > 30) = false then
        (F_cert_tooMany v6 : Option Bool).bind fun (v9 : Bool) =>
        if v9 = false then
            loopO (σ := ((List V) × (Unit × (Int × (Int × Int))))) (R := Bool) (fun (v10, v11, v12, v13, v14) =>
              if decide (v14 < v13) = true then
                if 0 ≤ v14 then
                  (v10[Int.toNat v14]?).bind fun v15 =>
                  (V.st? [Cc.str, Cc.lst false 10] v15).bind fun (v16, v17) =>
                    (F_cert_passes_1 (v16, v17) : Option Bool).bind fun (v18 : Bool) =>
                      if v18 = true then
                          (if decide (v14 ≥ 0) = false then
                              loopO (σ := ((List V) × (Unit × (Int × (Int × Int))))) (R := Bool) (fun (v19, v20, v21, v22, v23) =>
                                if decide (v23 < v22) = true then
                                  if 0 ≤ v23 then
                                    (v19[Int.toNat v23]?).bind fun v24 =>
                                    (V.st? [Cc.int .i64, Cc.int .u32, Cc.int .i64, Cc.lst false 1, Cc.lst false 1, Cc.arr .u8 32, Cc.lst false 10] v24).bind fun (v25, v26, v27, v28, v29, v30, v31) =>
                                      (F_cert_passes_2 (v25, v26, v27, v28, v29, fitI (fitI v30 0 32) 0 32, v31) : Option Bool).bind fun (v32 : Bool) =>
                                        if v32 = true then
                                            some (.inr (decide (v23 ≥ 0)))
                                          else
                                            some (.inl ((v19, PUnit.unit, v21, v22, w64 (v23 + 1))))
                                  else
                                    none
                                else
                                  some (.inr (decide (idI (-1) ≥ 0)))) ((v8, PUnit.unit, 0, len v8, 0))
                            else
                              some (true) : Option Bool).bind fun v33 =>
                          some (.inr (v33))
                        else
                          some (.inl ((v10, PUnit.unit, v12, v13, w64 (v14 + 1))))
                else
                  none
              else
                (loopO (σ := ((List V) × (Unit × (Int × (Int × Int))))) (R := Bool) (fun (v34, v35, v36, v37, v38) =>
                    if decide (v38 < v37) = true then
                      if 0 ≤ v38 then
                        (v34[Int.toNat v38]?).bind fun v39 =>
                        (V.st? [Cc.int .i64, Cc.int .u32, Cc.int .i64, Cc.lst false 1, Cc.lst false 1, Cc.arr .u8 32, Cc.lst false 10] v39).bind fun (v40, v41, v42, v43, v44, v45, v46) =>
                          (F_cert_passes_2 (v40, v41, v42, v43, v44, fitI (fitI v45 0 32) 0 32, v46) : Option Bool).bind fun (v47 : Bool) =>
                            if v47 = true then
                                some (.inr (decide (v38 ≥ 0)))
                              else
                                some (.inl ((v34, PUnit.unit, v36, v37, w64 (v38 + 1))))
                      else
                        none
                    else
                      some (.inr (decide (idI (-1) ≥ 0)))) ((v8, PUnit.unit, 0, len v8, 0)) : Option Bool).bind fun v48 =>
                some (.inr (v48))) ((v7, PUnit.unit, 0, len v7, 0))
          else
            some (true)
      else
        some (true)
    else
      some (true) : Option Bool).bind fun v49 =>
  some (v49)
noncomputable def fn_cert_passes : Fn := ⟨38, [.v (.st rapi_Cert)], .pure (.one (.t (.v .bool))) 1, F_cert_passes⟩
theorem t_cert_passes : GoodAt Tryz.prog HH HSP 8 fn_cert_passes := goodAt_in (ho := HO) (n := 5) (d := 2) (inl := INL) (l := [fn_cert_tooMany, fn_cert_passes_1, fn_cert_passes_2]) rfl INL_told (hl1 (t_cert_tooMany.up (by decide)) (hl1 (t_cert_passes_1.up (by decide)) (hl1 (t_cert_passes_2.up (by decide)) hl0))) fun x => by kernel_rfl

noncomputable def F_cert_writer_put : Ps [.nd 71 [.own 68, .v .bool], .v (.int .i64), .v (.lst false 1), .v .bool] → Option (Rc.I (.io (.tup []) [.nd 71 [.own 68, .v .bool], .t .dead, .t .dead, .t .dead])) := fun (((v0, v1), v2, v3, v4) : (((List V) × Bool) × (Int × ((List V) × Bool)))) =>
  if v1 = false then
    if List.length (all v0) + 1 ≤ 2147483648 then
      some ((PUnit.unit, (all v0 ++ [V.agg [V.int .i64 v2, V.sl false false 1 v3]], !v4), PUnit.unit, PUnit.unit, PUnit.unit))
    else
      none
  else
    if List.length (all v0) + 1 ≤ 2147483648 then
      some ((PUnit.unit, (all v0 ++ [V.agg [V.int .i64 v2, V.sl false false 1 v3]], true), PUnit.unit, PUnit.unit, PUnit.unit))
    else
      none
noncomputable def fn_cert_writer_put : Fn := ⟨36, [.nd 71 [.own 68, .v .bool], .v (.int .i64), .v (.lst false 1), .v .bool], .io (.tup []) [.nd 71 [.own 68, .v .bool], .t .dead, .t .dead, .t .dead], F_cert_writer_put⟩
theorem t_cert_writer_put : GoodAt Tryz.prog HH HSP 1 fn_cert_writer_put := goodAt_of (ho := HO) (l := []) rfl hl0 fun x => by kernel_rfl

noncomputable def F_nat_word : Ps [.v (.lst true 1), .v (.int .i64)] → Option (Rc.I (.pure (.one (.t (.v (.int .u32)))) 2)) := fun ((v0, v1) : ((List V) × Int)) =>
  if decide (v1 < len v0) = true then
    if 0 ≤ v1 then
      (v0[Int.toNat v1]?).bind fun v2 =>
      (V.int? .u32 v2).bind fun v3 =>
        some (v3)
    else
      none
  else
    some (0)
noncomputable def fn_nat_word : Fn := ⟨183, [.v (.lst true 1), .v (.int .i64)], .pure (.one (.t (.v (.int .u32)))) 2, F_nat_word⟩
theorem t_nat_word : GoodAt Tryz.prog HH HSP 1 fn_nat_word := goodAt_of (ho := HO) (l := []) rfl hl0 fun x => by kernel_rfl

noncomputable def F_nat_lay : Ps [.v (.lst true 1), .v (.int .i64)] → Option (Rc.I (.pure (.one (.t (.own 5))) 2)) := fun ((v0, v1) : ((List V) × Int)) =>
  if 0 ≤ v1 ∧ v1 ≤ v1 ∧ v1 ≤ 2147483648 then
    loopO (σ := ((List V) × (Int × ((List V) × (Int × Int))))) (R := (List V)) (fun (v2, v3, v4, v5, v6) =>
      if decide (v6 < v5) = true then
        (F_nat_word (v2, w64 (Int.tdiv v6 4)) : Option Int).bind fun (v7 : Int) =>
        if w64 (8 * Int.tmod v6 4) < 0 then
            none
          else
            if 0 ≤ w64 (w64 (v3 - 1) - v6) ∧ w64 (w64 (v3 - 1) - v6) < len v4 then
              (v4[0 + Int.toNat (w64 (w64 (v3 - 1) - v6))]?).bind fun v8 =>
              some (.inl ((v2, v3, List.set v4 (0 + Int.toNat (w64 (w64 (v3 - 1) - v6))) (storeEl v8 0 [V.int .u8 (wu8 (wordShr .u32 v7 (w64 (8 * Int.tmod v6 4))))]), v5, w64 (v6 + 1))))
            else
              none
      else
        some (.inr (all v4))) ((v0, v1, rep (Int.toNat v1) (V.int .u8 0), len (rep (Int.toNat v1) (V.int .u8 0)), 0))
  else
    none
noncomputable def fn_nat_lay : Fn := ⟨165, [.v (.lst true 1), .v (.int .i64)], .pure (.one (.t (.own 5))) 2, F_nat_lay⟩
theorem t_nat_lay : GoodAt Tryz.prog HH HSP 2 fn_nat_lay := goodAt_of (ho := HO) (l := [fn_nat_word]) rfl (hl1 (t_nat_word.up (by decide)) hl0) fun x => by kernel_rfl

noncomputable def F_math_bits_Len32 : Ps [.v (.int .u32)] → Option (Rc.I (.pure (.one (.t (.v (.int .i64)))) 1)) := fun (v0 : Int) =>
  (if decide (v0 ≥ 65536) = true then
      some (.inl ((wordShr .u32 v0 16, 16)))
    else
      some (.inl ((v0, 0))) : Option ((Int × Int) ⊕ Int)).bind fun v1 =>
  match v1 with
    | .inl (v2, v3) =>
      (if decide (v2 ≥ 256) = true then
          some (.inl ((wordShr .u32 v2 8, w64 (v3 + 8))))
        else
          some (.inl ((v2, v3))) : Option ((Int × Int) ⊕ Int)).bind fun v4 =>
      match v4 with
        | .inl (v5, v6) =>
          if 0 ≤ wu8 v5 then
            ((List.append (List.append (by8 [0, 1, 2, 2, 3, 3, 3, 3, 4, 4, 4, 4, 4, 4, 4, 4, 5, 5, 5, 5, 5, 5, 5, 5, 5, 5, 5, 5, 5, 5, 5, 5, 6, 6, 6, 6, 6, 6, 6, 6, 6, 6, 6, 6, 6, 6, 6, 6, 6, 6, 6, 6, 6, 6, 6, 6, 6, 6, 6, 6, 6, 6, 6, 6]) (by8 [7, 7, 7, 7, 7, 7, 7, 7, 7, 7, 7, 7, 7, 7, 7, 7, 7, 7, 7, 7, 7, 7, 7, 7, 7, 7, 7, 7, 7, 7, 7, 7, 7, 7, 7, 7, 7, 7, 7, 7, 7, 7, 7, 7, 7, 7, 7, 7, 7, 7, 7, 7, 7, 7, 7, 7, 7, 7, 7, 7, 7, 7, 7, 7])) (List.append (by8 [8, 8, 8, 8, 8, 8, 8, 8, 8, 8, 8, 8, 8, 8, 8, 8, 8, 8, 8, 8, 8, 8, 8, 8, 8, 8, 8, 8, 8, 8, 8, 8, 8, 8, 8, 8, 8, 8, 8, 8, 8, 8, 8, 8, 8, 8, 8, 8, 8, 8, 8, 8, 8, 8, 8, 8, 8, 8, 8, 8, 8, 8, 8, 8]) (by8 [8, 8, 8, 8, 8, 8, 8, 8, 8, 8, 8, 8, 8, 8, 8, 8, 8, 8, 8, 8, 8, 8, 8, 8, 8, 8, 8, 8, 8, 8, 8, 8, 8, 8, 8, 8, 8, 8, 8, 8, 8, 8, 8, 8, 8, 8, 8, 8, 8, 8, 8, 8, 8, 8, 8, 8, 8, 8, 8, 8, 8, 8, 8, 8])))[Int.toNat (wu8 v5)]?).bind fun v7 =>
            some (w64 (v6 + w64 (↑(UInt8.toNat v7) : Int)))
          else
            none
        | .inr v8 =>
          some (v8)
    | .inr v9 =>
      some (v9)
noncomputable def fn_math_bits_Len32 : Fn := ⟨164, [.v (.int .u32)], .pure (.one (.t (.v (.int .i64)))) 1, F_math_bits_Len32⟩
theorem t_math_bits_Len32 : GoodAt Tryz.prog HH HSP 1 fn_math_bits_Len32 := goodAt_of (ho := HO) (l := []) rfl hl0 fun x => by kernel_rfl

noncomputable def F_nat_down : Ps [.v (.lst false 1)] → Option (Rc.I (.pure (.one (.t (.v (.clo1 182 (.lst false 1))))) 1)) := fun (v0 : (List V)) =>
  some (v0)
noncomputable def fn_nat_down : Fn := ⟨163, [.v (.lst false 1)], .pure (.one (.t (.v (.clo1 182 (.lst false 1))))) 1, F_nat_down⟩
theorem t_nat_down : GoodAt Tryz.prog HH HSP 1 fn_nat_down := goodAt_of (ho := HO) (l := []) rfl hl0 fun x => by kernel_rfl

noncomputable def F_nat_Bits : Ps [.v (.lst false 1)] → Option (Rc.I (.pure (.one (.t (.v (.int .i64)))) 1)) := fun (v0 : (List V)) =>
  (F_nat_down v0 : Option (List V)).bind fun (v1 : (List V)) =>
  (downItems .u32 v1).bind fun v2 =>
    loopO (σ := ((List (List V)) × (Int × (List V)))) (R := Int) (fun (v3, v4, v5) =>
        match v3 with
        | [] =>
          some (.inr (0))
        | v6 :: v7 =>
          (v6[0]?).bind fun v8 =>
          (V.int? .i64 v8).bind fun v9 =>
            (v6[1]?).bind fun v10 =>
              (V.int? .u32 v10).bind fun v11 =>
                if List.length v6 = 2 then
                    if (v11 != 0) = true then
                      (F_math_bits_Len32 v11 : Option Int).bind fun (v12 : Int) =>
                      some (.inr (w64 (w64 (32 * v9) + v12)))
                    else
                      some (.inl ((v7, v4, v5)))
                  else
                    none) ((v2, 0, v1))
noncomputable def fn_nat_Bits : Fn := ⟨144, [.v (.lst false 1)], .pure (.one (.t (.v (.int .i64)))) 1, F_nat_Bits⟩
theorem t_nat_Bits : GoodAt Tryz.prog HH HSP 2 fn_nat_Bits := goodAt_of (ho := HO) (l := [fn_nat_down, fn_math_bits_Len32]) rfl (hl1 (t_nat_down.up (by decide)) (hl1 (t_math_bits_Len32.up (by decide)) hl0)) fun x => by kernel_rfl

noncomputable def F_nat_long : Ps [.v (.lst false 1)] → Option (Rc.I (.pure (.one (.t (.v (.int .i64)))) 1)) := fun (v0 : (List V)) =>
  (F_nat_Bits v0 : Option Int).bind fun (v1 : Int) =>
  some (w64 (Int.tdiv (w64 (v1 + 7)) 8))
noncomputable def fn_nat_long : Fn := ⟨166, [.v (.lst false 1)], .pure (.one (.t (.v (.int .i64)))) 1, F_nat_long⟩
theorem t_nat_long : GoodAt Tryz.prog HH HSP 3 fn_nat_long := goodAt_of (ho := HO) (l := [fn_nat_Bits]) rfl (hl1 (t_nat_Bits.up (by decide)) hl0) fun x => by kernel_rfl

noncomputable def F_nat_Bytes : Ps [.v (.lst false 1)] → Option (Rc.I (.pure (.one (.t (.own 5))) 1)) := fun (v0 : (List V)) =>
  (F_nat_long v0 : Option Int).bind fun (v1 : Int) =>
  (F_nat_lay (v0, v1) : Option (List V)).bind fun (v2 : (List V)) =>
    some (v2)
noncomputable def fn_nat_Bytes : Fn := ⟨145, [.v (.lst false 1)], .pure (.one (.t (.own 5))) 1, F_nat_Bytes⟩
theorem t_nat_Bytes : GoodAt Tryz.prog HH HSP 4 fn_nat_Bytes := goodAt_of (ho := HO) (l := [fn_nat_long, fn_nat_lay]) rfl (hl1 (t_nat_long.up (by decide)) (hl1 (t_nat_lay.up (by decide)) hl0)) fun x => by kernel_rfl

noncomputable def F_cursor_Put : Ps [.v (.lst true 1), .v (.int .u64), .v (.int .i64)] → Option (Rc.I (.pure (.tup [.t (.own 5), .t (.v (.int .i64))]) 3)) := fun ((v0, v1, v2) : ((List V) × (Int × Int))) =>
  (if decide (v2 < 1) = false then
      if decide (v2 > 8) = false then
        if decide (v2 < 8) = true then
          if w64 (8 * v2) < 0 then
            none
          else
            some (wordShr .u64 v1 (w64 (8 * v2)) != 0)
        else
          some (false)
      else
        some (true)
    else
      some (true) : Option Bool).bind fun v3 =>
  if v3 = true then
      some ((nilV, 1))
    else
      if 0 ≤ len v0 ∧ len v0 ≤ w64 (len v0 + v2) ∧ w64 (len v0 + v2) ≤ 2147483648 then
        loopO (σ := (Int × ((List V) × Int))) (R := ((List V) × Int)) (fun (v4, v5, v6) =>
          if decide (v6 ≥ 0) = true then
            if v6 < 0 then
              none
            else
              if List.length (all v5) + 1 ≤ 2147483648 then
                some (.inl ((v4, all v5 ++ [V.int .u8 (wu8 (wordShr .u64 v4 v6))], w64 (v6 - 8))))
              else
                none
          else
            some (.inr ((all v5, 0)))) ((v1, List.take (min (List.length (rep (List.length v0) (V.int .u8 0))) (List.length v0)) v0 ++ List.drop (0 + min (List.length (rep (List.length v0) (V.int .u8 0))) (List.length v0)) (rep (List.length v0) (V.int .u8 0)), w64 (8 * w64 (v2 - 1))))
      else
        none
noncomputable def fn_cursor_Put : Fn := ⟨48, [.v (.lst true 1), .v (.int .u64), .v (.int .i64)], .pure (.tup [.t (.own 5), .t (.v (.int .i64))]) 3, F_cursor_Put⟩
theorem t_cursor_Put : GoodAt Tryz.prog HH HSP 1 fn_cursor_Put := goodAt_of (ho := HO) (l := []) rfl hl0 fun x => by kernel_rfl

noncomputable def F_mpi_Put : Ps [.v (.lst false 1), .v (.lst false 1)] → Option (Rc.I (.pure (.tup [.t (.own 5), .t (.v (.int .i64))]) 2)) := fun ((v0, v1) : ((List V) × (List V))) =>
  (F_nat_Bits v1 : Option Int).bind fun (v2 : Int) =>
  if decide (v2 > 16384) = true then
      some ((nilV, 4))
    else
      (F_cursor_Put (v0, wu64 v2, 2) : Option ((List V) × Int)).bind fun ((v3, v4) : ((List V) × Int)) =>
      (F_nat_Bytes v1 : Option (List V)).bind fun (v5 : (List V)) =>
        if List.length (all v3) + List.length (all v5) ≤ 2147483648 then
            some ((all v3 ++ all v5, v4))
          else
            none
noncomputable def fn_mpi_Put : Fn := ⟨102, [.v (.lst false 1), .v (.lst false 1)], .pure (.tup [.t (.own 5), .t (.v (.int .i64))]) 2, F_mpi_Put⟩
theorem t_mpi_Put : GoodAt Tryz.prog HH HSP 5 fn_mpi_Put := goodAt_of (ho := HO) (l := [fn_nat_Bits, fn_cursor_Put, fn_nat_Bytes]) rfl (hl1 (t_nat_Bits.up (by decide)) (hl1 (t_cursor_Put.up (by decide)) (hl1 (t_nat_Bytes.up (by decide)) hl0))) fun x => by kernel_rfl

noncomputable def F_nat_trim : Ps [.v (.lst false 1)] → Option (Rc.I (.pure (.one (.t (.v (.lst false 1)))) 1)) := fun (v0 : (List V)) =>
  loopO (σ := ((List V) × Int)) (R := (List V)) (fun (v1, v2) =>
    (if decide (v2 > 0) = true then
        if 0 ≤ w64 (v2 - 1) then
          (v1[Int.toNat (w64 (v2 - 1))]?).bind fun v3 =>
          (V.int? .u32 v3).bind fun v4 =>
            some (v4 == 0)
        else
          none
      else
        some (false) : Option Bool).bind fun v5 =>
    if v5 = true then
        some (.inl ((v1, w64 (v2 - 1))))
      else
        (if 0 ≤ v2 then
            if 0 ≤ v2 then
              if 0 ≤ Int.toNat v2 ∧ Int.toNat v2 = Int.toNat v2 ∧ Int.toNat v2 ≤ List.length v1 then
                some (List.take (Int.toNat v2) (List.drop 0 v1))
              else
                none
            else
              none
          else
            none : Option (List V)).bind fun v6 =>
        some (.inr (v6))) ((v0, len v0))
noncomputable def fn_nat_trim : Fn := ⟨146, [.v (.lst false 1)], .pure (.one (.t (.v (.lst false 1)))) 1, F_nat_trim⟩
theorem t_nat_trim : GoodAt Tryz.prog HH HSP 1 fn_nat_trim := goodAt_of (ho := HO) (l := []) rfl hl0 fun x => by kernel_rfl

noncomputable def F_nat_Read : Ps [.v (.lst true 1)] → Option (Rc.I (.pure (.one (.t (.v (.lst false 1)))) 1)) := fun (v0 : (List V)) =>
  if 0 ≤ w64 (Int.tdiv (w64 (len v0 + 3)) 4) ∧ w64 (Int.tdiv (w64 (len v0 + 3)) 4) ≤ w64 (Int.tdiv (w64 (len v0 + 3)) 4) ∧ w64 (Int.tdiv (w64 (len v0 + 3)) 4) ≤ 2147483648 then
    loopO (σ := ((List V) × ((List V) × ((List V) × (Int × Int))))) (R := (List V)) (fun (v1, v2, v3, v4, v5) =>
      if decide (v5 < v4) = true then
        if 0 ≤ v5 then
          (v3[Int.toNat v5]?).bind fun v6 =>
          (V.int? .u8 v6).bind fun v7 =>
            if 0 ≤ w64 (Int.tdiv (w64 (w64 (len v1 - 1) - v5)) 4) ∧ w64 (Int.tdiv (w64 (w64 (len v1 - 1) - v5)) 4) < len v2 then
                (v2[0 + Int.toNat (w64 (Int.tdiv (w64 (w64 (len v1 - 1) - v5)) 4))]?).bind fun v8 =>
                ((V.cells v8)[0]?).bind fun v9 =>
                  (V.int? .u32 v9).bind fun v10 =>
                    if w64 (8 * Int.tmod (w64 (w64 (len v1 - 1) - v5)) 4) < 0 then
                        none
                      else
                        if 0 ≤ w64 (Int.tdiv (w64 (w64 (len v1 - 1) - v5)) 4) ∧ w64 (Int.tdiv (w64 (w64 (len v1 - 1) - v5)) 4) < len v2 then
                          (v2[0 + Int.toNat (w64 (Int.tdiv (w64 (w64 (len v1 - 1) - v5)) 4))]?).bind fun v11 =>
                          some (.inl ((v1, List.set v2 (0 + Int.toNat (w64 (Int.tdiv (w64 (w64 (len v1 - 1) - v5)) 4))) (storeEl v11 0 [V.int .u32 (wordOr .u32 v10 (wordShl .u32 (wu32 v7) (w64 (8 * Int.tmod (w64 (w64 (len v1 - 1) - v5)) 4))))]), v3, v4, w64 (v5 + 1))))
                        else
                          none
              else
                none
        else
          none
      else
        ((F_nat_trim (all v2) : Option (List V)).bind fun (v12 : (List V)) =>
          some (v12) : Option (List V)).bind fun v13 =>
        some (.inr (v13))) ((v0, rep (Int.toNat (w64 (Int.tdiv (w64 (len v0 + 3)) 4))) (V.int .u32 0), v0, len v0, 0))
  else
    none
noncomputable def fn_nat_Read : Fn := ⟨103, [.v (.lst true 1)], .pure (.one (.t (.v (.lst false 1)))) 1, F_nat_Read⟩
theorem t_nat_Read : GoodAt Tryz.prog HH HSP 2 fn_nat_Read := goodAt_of (ho := HO) (l := [fn_nat_trim]) rfl (hl1 (t_nat_trim.up (by decide)) hl0) fun x => by kernel_rfl

noncomputable def F_sig_width : Ps [.v (.int .i64)] → Option (Rc.I (.pure (.one (.t (.v (.int .i64)))) 1)) := fun (v0 : Int) =>
  if (v0 == 6) = true then
    some (4)
  else
    some (2)
noncomputable def fn_sig_width : Fn := ⟨113, [.v (.int .i64)], .pure (.one (.t (.v (.int .i64)))) 1, F_sig_width⟩
theorem t_sig_width : GoodAt Tryz.prog HH HSP 1 fn_sig_width := goodAt_of (ho := HO) (l := []) rfl hl0 fun x => by kernel_rfl

noncomputable def F_sig_put : Ps [.v (.lst true 1), .v (.lst true 1), .v (.int .i64)] → Option (Rc.I (.pure (.one (.t (.own 5))) 3)) := fun ((v0, v1, v2) : ((List V) × ((List V) × Int))) =>
  (F_sig_width v2 : Option Int).bind fun (v3 : Int) =>
  (F_cursor_Put (v0, wu64 (len v1), v3) : Option ((List V) × Int)).bind fun ((v4, v5) : ((List V) × Int)) =>
    if List.length (all v4) + List.length v1 ≤ 2147483648 then
        some (all v4 ++ v1)
      else
        none
noncomputable def fn_sig_put : Fn := ⟨77, [.v (.lst true 1), .v (.lst true 1), .v (.int .i64)], .pure (.one (.t (.own 5))) 3, F_sig_put⟩
theorem t_sig_put : GoodAt Tryz.prog HH HSP 2 fn_sig_put := goodAt_of (ho := HO) (l := [fn_sig_width, fn_cursor_Put]) rfl (hl1 (t_sig_width.up (by decide)) (hl1 (t_cursor_Put.up (by decide)) hl0)) fun x => by kernel_rfl

noncomputable def F_sig_begin : Ps [.v (.st rapi_Sig), .v (.lst true 1)] → Option (Rc.I (.pure (.one (.t (.own 5))) 2)) := fun (((v0, v1, v2, v3, v4, v5, v6, v7, v8, v9), v10) : ((Int × (Int × (Int × (Int × ((List V) × ((List V) × (Int × (Int × ((List V) × (List V)))))))))) × (List V))) =>
  (F_sig_put ([V.int .u8 (wu8 v0), V.int .u8 (wu8 v1), V.int .u8 (wu8 v2), V.int .u8 (wu8 v3)], v10, v0) : Option (List V)).bind fun (v11 : (List V)) =>
  some (v11)
noncomputable def fn_sig_begin : Fn := ⟨47, [.v (.st rapi_Sig), .v (.lst true 1)], .pure (.one (.t (.own 5))) 2, F_sig_begin⟩
theorem t_sig_begin : GoodAt Tryz.prog HH HSP 3 fn_sig_begin := goodAt_of (ho := HO) (l := [fn_sig_put]) rfl (hl1 (t_sig_put.up (by decide)) hl0) fun x => by kernel_rfl

noncomputable def F_sig_isValue : Ps [.v (.st rapi_Sig)] → Option (Rc.I (.pure (.one (.t (.v .bool))) 1)) := fun ((v0, v1, v2, v3, v4, v5, v6, v7, v8, v9) : (Int × (Int × (Int × (Int × ((List V) × ((List V) × (Int × (Int × ((List V) × (List V))))))))))) =>
  if (v2 == 27) = true then
    some (len v9 == 64)
  else
    (F_nat_Read v9 : Option (List V)).bind fun (v10 : (List V)) =>
    ((F_nat_Bytes v10 : Option (List V)).bind fun (v11 : (List V)) =>
        (F_bytes_Equal (all v11, v9) : Option Bool).bind fun (v12 : Bool) =>
          if v12 = true then
              (F_nat_Bits v10 : Option Int).bind fun (v13 : Int) =>
              some (decide (v13 ≤ 16384))
            else
              some (false) : Option Bool).bind fun v14 =>
      some (v14)
noncomputable def fn_sig_isValue : Fn := ⟨112, [.v (.st rapi_Sig)], .pure (.one (.t (.v .bool))) 1, F_sig_isValue⟩
theorem t_sig_isValue : GoodAt Tryz.prog HH HSP 5 fn_sig_isValue := goodAt_of (ho := HO) (l := [fn_nat_Read, fn_nat_Bytes, fn_bytes_Equal, fn_nat_Bits]) rfl (hl1 (t_nat_Read.up (by decide)) (hl1 (t_nat_Bytes.up (by decide)) (hl1 (t_bytes_Equal.up (by decide)) (hl1 (t_nat_Bits.up (by decide)) hl0)))) fun x => by kernel_rfl

noncomputable def F_sig_SaltSize : Ps [.v (.int .i64)] → Option (Rc.I (.pure (.one (.t (.v (.int .i64)))) 1)) := fun (v0 : Int) =>
  (if (v0 == 11) = true then
      some (.inl ((v0, v0 == 11)))
    else
      some (.inl ((v0, v0 == 8))) : Option ((Int × Bool) ⊕ Int)).bind fun v1 =>
  match v1 with
    | .inl (v2, v3) =>
      if v3 = true then
        some (16)
      else
        if (v2 == 9) = true then
          some (24)
        else
          if (v2 == 10) = true then
            some (32)
          else
            some (0)
    | .inr v4 =>
      some (v4)
noncomputable def fn_sig_SaltSize : Fn := ⟨149, [.v (.int .i64)], .pure (.one (.t (.v (.int .i64)))) 1, F_sig_SaltSize⟩
theorem t_sig_SaltSize : GoodAt Tryz.prog HH HSP 1 fn_sig_SaltSize := goodAt_of (ho := HO) (l := []) rfl hl0 fun x => by kernel_rfl

noncomputable def F_sig_isSalt : Ps [.v (.st rapi_Sig)] → Option (Rc.I (.pure (.one (.t (.v .bool))) 1)) := fun ((v0, v1, v2, v3, v4, v5, v6, v7, v8, v9) : (Int × (Int × (Int × (Int × ((List V) × ((List V) × (Int × (Int × ((List V) × (List V))))))))))) =>
  if (v0 == 4) = true then
    some (len v8 == 0)
  else
    (F_sig_SaltSize v3 : Option Int).bind fun (v10 : Int) =>
    some (len v8 == v10)
noncomputable def fn_sig_isSalt : Fn := ⟨111, [.v (.st rapi_Sig)], .pure (.one (.t (.v .bool))) 1, F_sig_isSalt⟩
theorem t_sig_isSalt : GoodAt Tryz.prog HH HSP 2 fn_sig_isSalt := goodAt_of (ho := HO) (l := [fn_sig_SaltSize]) rfl (hl1 (t_sig_SaltSize.up (by decide)) hl0) fun x => by kernel_rfl

noncomputable def F_hash_Size : Ps [.v (.int .i64)] → Option (Rc.I (.pure (.one (.t (.v (.int .i64)))) 1)) := fun (v0 : Int) =>
  if (v0 == 2) = true then
    some (20)
  else
    if (v0 == 11) = true then
      some (28)
    else
      if (v0 == 8) = true then
        some (32)
      else
        if (v0 == 9) = true then
          some (48)
        else
          if (v0 == 10) = true then
            some (64)
          else
            some (0)
noncomputable def fn_hash_Size : Fn := ⟨87, [.v (.int .i64)], .pure (.one (.t (.v (.int .i64)))) 1, F_hash_Size⟩
theorem t_hash_Size : GoodAt Tryz.prog HH HSP 1 fn_hash_Size := goodAt_of (ho := HO) (l := []) rfl hl0 fun x => by kernel_rfl

noncomputable def F_hash_Weak : Ps [.v (.int .i64)] → Option (Rc.I (.pure (.one (.t (.v .bool))) 1)) := fun (v0 : Int) =>
  (if (v0 == 2) = false then
      (F_hash_Size v0 : Option Int).bind fun (v1 : Int) =>
      some (v1 == 0)
    else
      some (true) : Option Bool).bind fun v2 =>
  some (v2)
noncomputable def fn_hash_Weak : Fn := ⟨148, [.v (.int .i64)], .pure (.one (.t (.v .bool))) 1, F_hash_Weak⟩
theorem t_hash_Weak : GoodAt Tryz.prog HH HSP 2 fn_hash_Weak := goodAt_of (ho := HO) (l := [fn_hash_Size]) rfl (hl1 (t_hash_Size.up (by decide)) hl0) fun x => by kernel_rfl

noncomputable def F_sig_isHash : Ps [.v (.int .i64), .v (.int .i64)] → Option (Rc.I (.pure (.one (.t (.v .bool))) 2)) := fun ((v0, v1) : (Int × Int)) =>
  ((F_hash_Size v0 : Option Int).bind fun (v2 : Int) =>
    if decide (v2 > 0) = true then
        if (v1 == 6) = true then
          (F_hash_Weak v0 : Option Bool).bind fun (v3 : Bool) =>
          some (!v3)
        else
          some (!false)
      else
        some (false) : Option Bool).bind fun v4 =>
  some (v4)
noncomputable def fn_sig_isHash : Fn := ⟨110, [.v (.int .i64), .v (.int .i64)], .pure (.one (.t (.v .bool))) 2, F_sig_isHash⟩
theorem t_sig_isHash : GoodAt Tryz.prog HH HSP 3 fn_sig_isHash := goodAt_of (ho := HO) (l := [fn_hash_Size, fn_hash_Weak]) rfl (hl1 (t_hash_Size.up (by decide)) (hl1 (t_hash_Weak.up (by decide)) hl0)) fun x => by kernel_rfl

noncomputable def F_sig_isPub : Ps [.v (.int .i64)] → Option (Rc.I (.pure (.one (.t (.v .bool))) 1)) := fun (v0 : Int) =>
  (if (v0 == 1) = false then
      some (v0 == 27)
    else
      some (true) : Option Bool).bind fun v1 =>
  some (v1)
noncomputable def fn_sig_isPub : Fn := ⟨109, [.v (.int .i64)], .pure (.one (.t (.v .bool))) 1, F_sig_isPub⟩
theorem t_sig_isPub : GoodAt Tryz.prog HH HSP 1 fn_sig_isPub := goodAt_of (ho := HO) (l := []) rfl hl0 fun x => by kernel_rfl

noncomputable def F_sig_isVersion : Ps [.v (.int .i64)] → Option (Rc.I (.pure (.one (.t (.v .bool))) 1)) := fun (v0 : Int) =>
  (if (v0 == 4) = false then
      some (v0 == 6)
    else
      some (true) : Option Bool).bind fun v1 =>
  some (v1)
noncomputable def fn_sig_isVersion : Fn := ⟨108, [.v (.int .i64)], .pure (.one (.t (.v .bool))) 1, F_sig_isVersion⟩
theorem t_sig_isVersion : GoodAt Tryz.prog HH HSP 1 fn_sig_isVersion := goodAt_of (ho := HO) (l := []) rfl hl0 fun x => by kernel_rfl

noncomputable def F_sig_may : Ps [.v (.st rapi_Sig)] → Option (Rc.I (.pure (.one (.t (.v .bool))) 1)) := fun ((v0, v1, v2, v3, v4, v5, v6, v7, v8, v9) : (Int × (Int × (Int × (Int × ((List V) × ((List V) × (Int × (Int × ((List V) × (List V))))))))))) =>
  ((F_sig_isVersion v0 : Option Bool).bind fun (v10 : Bool) =>
    if v10 = true then
        if decide (v1 ≥ 0) = true then
          if decide (v1 ≤ 255) = true then
            (F_sig_isPub v2 : Option Bool).bind fun (v11 : Bool) =>
            if v11 = true then
                (F_sig_isHash (v3, v0) : Option Bool).bind fun (v12 : Bool) =>
                if v12 = true then
                    (F_sig_isSalt (v0, v1, v2, v3, v4, v5, v6, v7, v8, v9) : Option Bool).bind fun (v13 : Bool) =>
                    if v13 = true then
                        (F_sig_isValue (v0, v1, v2, v3, v4, v5, v6, v7, v8, v9) : Option Bool).bind fun (v14 : Bool) =>
                        some (v14)
                      else
                        some (false)
                  else
                    some (false)
              else
                some (false)
          else
            some (false)
        else
          some (false)
      else
        some (false) : Option Bool).bind fun v15 =>
  some (v15)
noncomputable def fn_sig_may : Fn := ⟨76, [.v (.st rapi_Sig)], .pure (.one (.t (.v .bool))) 1, F_sig_may⟩
theorem t_sig_may : GoodAt Tryz.prog HH HSP 6 fn_sig_may := goodAt_of (ho := HO) (l := [fn_sig_isVersion, fn_sig_isPub, fn_sig_isHash, fn_sig_isSalt, fn_sig_isValue]) rfl (hl1 (t_sig_isVersion.up (by decide)) (hl1 (t_sig_isPub.up (by decide)) (hl1 (t_sig_isHash.up (by decide)) (hl1 (t_sig_isSalt.up (by decide)) (hl1 (t_sig_isValue.up (by decide)) hl0))))) fun x => by kernel_rfl

noncomputable def F_subpkt_put : Ps [.mv 5, .v (.st rapi_Sub)] → Option (Rc.I (.pure (.one (.t (.own 5))) 2)) := fun ((v0, v1, v2, v3) : ((List V) × (Int × (Bool × (List V))))) =>
  (if decide (w64 (len v3 + 1) < 192) = true then
      if List.length (all v0) + 1 ≤ 2147483648 then
        some (.inl ((all v0 ++ [V.int .u8 (wu8 (w64 (len v3 + 1)))], w64 (len v3 + 1))))
      else
        none
    else
      (if decide (w64 (len v3 + 1) < 16320) = true then
          if List.length (all v0) + 2 ≤ 2147483648 then
            some (.inl ((all v0 ++ [V.int .u8 (wu8 (wu8 (wordShr .i64 (w64 (w64 (len v3 + 1) - 192)) 8) + 192)), V.int .u8 (wu8 (w64 (w64 (len v3 + 1) - 192)))], w64 (w64 (len v3 + 1) - 192))))
          else
            none
        else
          if List.length (all v0) + 1 ≤ 2147483648 then
            (F_cursor_Put (all (all v0 ++ [V.int .u8 255]), wu64 (w64 (len v3 + 1)), 4) : Option ((List V) × Int)).bind fun ((v4, v5) : ((List V) × Int)) =>
            some (.inl ((v4, w64 (len v3 + 1))))
          else
            none : Option (((List V) × Int) ⊕ (((List V) × Int) ⊕ (List V)))).bind fun v6 =>
      match v6 with
        | .inl (v7, v8) =>
          some (.inl ((v7, v8)))
        | .inr v9 =>
          some (v9) : Option (((List V) × Int) ⊕ (List V))).bind fun v10 =>
  match v10 with
    | .inl (v11, v12) =>
      (if v2 = true then
          some (.inl (wordOr .u8 (wu8 v1) 128))
        else
          some (.inl (wu8 v1)) : Option (Int ⊕ (List V))).bind fun v13 =>
      match v13 with
        | .inl v14 =>
          if List.length (all v11) + 1 ≤ 2147483648 then
            if List.length (all v11 ++ [V.int .u8 v14]) + List.length v3 ≤ 2147483648 then
              some (all v11 ++ [V.int .u8 v14] ++ v3)
            else
              none
          else
            none
        | .inr v15 =>
          some (v15)
    | .inr v16 =>
      some (v16)
noncomputable def fn_subpkt_put : Fn := ⟨107, [.mv 5, .v (.st rapi_Sub)], .pure (.one (.t (.own 5))) 2, F_subpkt_put⟩
theorem t_subpkt_put : GoodAt Tryz.prog HH HSP 2 fn_subpkt_put := goodAt_of (ho := HO) (l := [fn_cursor_Put]) rfl (hl1 (t_cursor_Put.up (by decide)) hl0) fun x => by kernel_rfl

noncomputable def F_subpkt_Emit : Ps [.v (.lst true 3)] → Option (Rc.I (.pure (.tup [.t (.own 5), .t (.v (.int .i64))]) 1)) := fun (v0 : (List V)) =>
  loopO (σ := ((List V) × (Int × ((List V) × ((List V) × (Int × Int)))))) (R := ((List V) × Int)) (fun (v1, v2, v3, v4, v5, v6) =>
    if decide (v6 < v5) = true then
      if 0 ≤ v6 then
        (v4[Int.toNat v6]?).bind fun v7 =>
        (V.st? [Cc.int .i64, Cc.bool, Cc.lst false 1] v7).bind fun (v8, v9, v10) =>
          (if decide (v8 < 0) = false then
                some (decide (v8 > 127))
              else
                some (true) : Option Bool).bind fun v11 =>
            if v11 = true then
                some (.inr ((nilV, 1)))
              else
                (F_subpkt_put (all v3, v8, v9, v10) : Option (List V)).bind fun (v12 : (List V)) =>
                some (.inl ((v1, v2, v12, v4, v5, w64 (v6 + 1))))
      else
        none
    else
      ((if decide (len v0 > 40) = false then
            some (decide (len v3 > 4000))
          else
            some (true) : Option Bool).bind fun v13 =>
        if v13 = true then
            some ((nilV, 4))
          else
            some ((all v3, 0)) : Option ((List V) × Int)).bind fun (v14, v15) =>
      some (.inr ((v14, v15)))) ((nilV, 0, nilV, v0, len v0, 0))
noncomputable def fn_subpkt_Emit : Fn := ⟨75, [.v (.lst true 3)], .pure (.tup [.t (.own 5), .t (.v (.int .i64))]) 1, F_subpkt_Emit⟩
theorem t_subpkt_Emit : GoodAt Tryz.prog HH HSP 3 fn_subpkt_Emit := goodAt_of (ho := HO) (l := [fn_subpkt_put]) rfl (hl1 (t_subpkt_put.up (by decide)) hl0) fun x => by kernel_rfl

noncomputable def F_sig_areas : Ps [.v (.st rapi_Sig)] → Option (Rc.I (.pure (.tup [.t (.own 5), .t (.own 5), .t (.v (.int .i64))]) 1)) := fun ((v0, v1, v2, v3, v4, v5, v6, v7, v8, v9) : (Int × (Int × (Int × (Int × ((List V) × ((List V) × (Int × (Int × ((List V) × (List V))))))))))) =>
  (F_subpkt_Emit v4 : Option ((List V) × Int)).bind fun ((v10, v11) : ((List V) × Int)) =>
  (F_subpkt_Emit v5 : Option ((List V) × Int)).bind fun ((v12, v13) : ((List V) × Int)) =>
    ((F_sig_may (v0, v1, v2, v3, v4, v5, v6, v7, v8, v9) : Option Bool).bind fun (v14 : Bool) =>
        if (!v14) = false then
            if (v11 == 1) = false then
              some (v13 == 1)
            else
              some (true)
          else
            some (true) : Option Bool).bind fun v15 =>
      if v15 = true then
          some ((nilV, nilV, 1))
        else
          (if (v11 != 0) = false then
              some (v13 != 0)
            else
              some (true) : Option Bool).bind fun v16 =>
          if v16 = true then
              some ((nilV, nilV, 4))
            else
              some ((all v10, all v12, 0))
noncomputable def fn_sig_areas : Fn := ⟨46, [.v (.st rapi_Sig)], .pure (.tup [.t (.own 5), .t (.own 5), .t (.v (.int .i64))]) 1, F_sig_areas⟩
theorem t_sig_areas : GoodAt Tryz.prog HH HSP 7 fn_sig_areas := goodAt_of (ho := HO) (l := [fn_subpkt_Emit, fn_sig_may]) rfl (hl1 (t_subpkt_Emit.up (by decide)) (hl1 (t_sig_may.up (by decide)) hl0)) fun x => by kernel_rfl

noncomputable def F_sig_Emit : Ps [.v (.st rapi_Sig)] → Option (Rc.I (.pure (.tup [.t (.own 5), .t (.v (.int .i64))]) 1)) := fun ((v0, v1, v2, v3, v4, v5, v6, v7, v8, v9) : (Int × (Int × (Int × (Int × ((List V) × ((List V) × (Int × (Int × ((List V) × (List V))))))))))) =>
  (F_sig_areas (v0, v1, v2, v3, v4, v5, v6, v7, v8, v9) : Option ((List V) × ((List V) × Int))).bind fun ((v10, v11, v12) : ((List V) × ((List V) × Int))) =>
  if (v12 != 0) = true then
      some ((nilV, v12))
    else
      (F_sig_begin ((v0, v1, v2, v3, v4, v5, v6, v7, v8, v9), all v10) : Option (List V)).bind fun (v13 : (List V)) =>
      (F_sig_put (all v13, all v11, v0) : Option (List V)).bind fun (v14 : (List V)) =>
        if List.length v14 + 2 ≤ 2147483648 then
            (if (v0 == 6) = true then
                if List.length (all (v14 ++ [V.int .u8 v6, V.int .u8 v7])) + 1 ≤ 2147483648 then
                  if List.length (all (v14 ++ [V.int .u8 v6, V.int .u8 v7]) ++ [V.int .u8 (wu8 (len v8))]) + List.length v8 ≤ 2147483648 then
                    some (.inl (((v0, v1, v2, v3, v4, v5, v6, v7, v8, v9), all (v14 ++ [V.int .u8 v6, V.int .u8 v7]) ++ [V.int .u8 (wu8 (len v8))] ++ v8)))
                  else
                    none
                else
                  none
              else
                some (.inl (((v0, v1, v2, v3, v4, v5, v6, v7, v8, v9), v14 ++ [V.int .u8 v6, V.int .u8 v7]))) : Option (((Int × (Int × (Int × (Int × ((List V) × ((List V) × (Int × (Int × ((List V) × (List V)))))))))) × (List V)) ⊕ ((List V) × Int))).bind fun v15 =>
            match v15 with
              | .inl ((v16, v17, v18, v19, v20, v21, v22, v23, v24, v25), v26) =>
                if (v18 == 27) = true then
                  if List.length (all v26) + List.length v25 ≤ 2147483648 then
                    some ((all v26 ++ v25, 0))
                  else
                    none
                else
                  (F_nat_Read v25 : Option (List V)).bind fun (v27 : (List V)) =>
                  (F_mpi_Put (all v26, v27) : Option ((List V) × Int)).bind fun ((v28, v29) : ((List V) × Int)) =>
                    some ((v28, v29))
              | .inr (v30, v31) =>
                some ((v30, v31))
          else
            none
noncomputable def fn_sig_Emit : Fn := ⟨66, [.v (.st rapi_Sig)], .pure (.tup [.t (.own 5), .t (.v (.int .i64))]) 1, F_sig_Emit⟩
theorem t_sig_Emit : GoodAt Tryz.prog HH HSP 8 fn_sig_Emit := goodAt_of (ho := HO) (l := [fn_sig_areas, fn_sig_begin, fn_sig_put, fn_nat_Read, fn_mpi_Put]) rfl (hl1 (t_sig_areas.up (by decide)) (hl1 (t_sig_begin.up (by decide)) (hl1 (t_sig_put.up (by decide)) (hl1 (t_nat_Read.up (by decide)) (hl1 (t_mpi_Put.up (by decide)) hl0))))) fun x => by kernel_rfl

noncomputable def F_cert_writer_putSigs : Ps [.nd 71 [.own 68, .v .bool], .v (.lst true 10)] → Option (Rc.I (.io (.tup []) [.nd 71 [.own 68, .v .bool], .t .dead])) := fun (((v0, v1), v2) : (((List V) × Bool) × (List V))) =>
  loopO (σ := (Unit × ((List V) × (Int × (Int × ((List V) × Bool)))))) (R := (Unit × (((List V) × Bool) × Unit))) (fun (v3, v4, v5, v6, v7, v8) =>
    if decide (v6 < v5) = true then
      if 0 ≤ v6 then
        (v4[Int.toNat v6]?).bind fun v9 =>
        (V.st? [Cc.int .i64, Cc.int .i64, Cc.int .i64, Cc.int .i64, Cc.lst false 3, Cc.lst false 3, Cc.int .u8, Cc.int .u8, Cc.lst false 1, Cc.lst false 1] v9).bind fun (v10, v11, v12, v13, v14, v15, v16, v17, v18, v19) =>
          (F_sig_Emit (v10, v11, v12, v13, v14, v15, v16, v17, v18, v19) : Option ((List V) × Int)).bind fun ((v20, v21) : ((List V) × Int)) =>
            (F_cert_writer_put ((v7, v8), 2, all v20, v21 == 0) : Option (Unit × (((List V) × Bool) × (Unit × (Unit × Unit))))).bind fun ((v22, (v23, v24), v25, v26, v27) : (Unit × (((List V) × Bool) × (Unit × (Unit × Unit))))) =>
              some (.inl ((PUnit.unit, v4, v5, w64 (v6 + 1), v23, v24)))
      else
        none
    else
      some (.inr ((PUnit.unit, (v7, v8), PUnit.unit)))) ((PUnit.unit, v2, len v2, 0, v0, v1))
noncomputable def fn_cert_writer_putSigs : Fn := ⟨35, [.nd 71 [.own 68, .v .bool], .v (.lst true 10)], .io (.tup []) [.nd 71 [.own 68, .v .bool], .t .dead], F_cert_writer_putSigs⟩
theorem t_cert_writer_putSigs : GoodAt Tryz.prog HH HSP 9 fn_cert_writer_putSigs := goodAt_of (ho := HO) (l := [fn_sig_Emit, fn_cert_writer_put]) rfl (hl1 (t_sig_Emit.up (by decide)) (hl1 (t_cert_writer_put.up (by decide)) hl0)) fun x => by kernel_rfl

noncomputable def F_key_put : Ps [.v (.lst true 1), .v (.int .i64), .v (.int .i64)] → Option (Rc.I (.pure (.one (.t (.own 5))) 3)) := fun ((v0, v1, v2) : ((List V) × (Int × Int))) =>
  (F_cursor_Put (v0, wu64 v1, v2) : Option ((List V) × Int)).bind fun ((v3, v4) : ((List V) × Int)) =>
  some (all v3)
noncomputable def fn_key_put : Fn := ⟨101, [.v (.lst true 1), .v (.int .i64), .v (.int .i64)], .pure (.one (.t (.own 5))) 3, F_key_put⟩
theorem t_key_put : GoodAt Tryz.prog HH HSP 2 fn_key_put := goodAt_of (ho := HO) (l := [fn_cursor_Put]) rfl (hl1 (t_cursor_Put.up (by decide)) hl0) fun x => by kernel_rfl

noncomputable def F_key_material : Ps [.v (.st rapi_Key)] → Option (Rc.I (.pure (.one (.t (.own 5))) 1)) := fun ((v0, v1, v2, v3, v4, v5) : (Int × (Int × (Int × ((List V) × ((List V) × (List Int))))))) =>
  if (v2 == 27) = true then
    some (arrV .u8 v5 0 32)
  else
    (F_mpi_Put (nilV, v3) : Option ((List V) × Int)).bind fun ((v6, v7) : ((List V) × Int)) =>
    (F_mpi_Put (all v6, v4) : Option ((List V) × Int)).bind fun ((v8, v9) : ((List V) × Int)) =>
      some (all v8)
noncomputable def fn_key_material : Fn := ⟨100, [.v (.st rapi_Key)], .pure (.one (.t (.own 5))) 1, F_key_material⟩
theorem t_key_material : GoodAt Tryz.prog HH HSP 6 fn_key_material := goodAt_of (ho := HO) (l := [fn_bytes_Clone, fn_mpi_Put]) rfl (hl1 (t_bytes_Clone.up (by decide)) (hl1 (t_mpi_Put.up (by decide)) hl0)) fun x => by kernel_rfl

noncomputable def F_key_isShort : Ps [.v (.lst false 1)] → Option (Rc.I (.pure (.one (.t (.v .bool))) 1)) := fun (v0 : (List V)) =>
  (F_nat_Bits v0 : Option Int).bind fun (v1 : Int) =>
  some (decide (v1 ≤ 16384))
noncomputable def fn_key_isShort : Fn := ⟨143, [.v (.lst false 1)], .pure (.one (.t (.v .bool))) 1, F_key_isShort⟩
theorem t_key_isShort : GoodAt Tryz.prog HH HSP 3 fn_key_isShort := goodAt_of (ho := HO) (l := [fn_nat_Bits]) rfl (hl1 (t_nat_Bits.up (by decide)) hl0) fun x => by kernel_rfl

noncomputable def F_key_may : Ps [.v (.st rapi_Key)] → Option (Rc.I (.pure (.one (.t (.v .bool))) 1)) := fun ((v0, v1, v2, v3, v4, v5) : (Int × (Int × (Int × ((List V) × ((List V) × (List Int))))))) =>
  (if (v0 != 4) = true then
      some (v0 != 6)
    else
      some (false) : Option Bool).bind fun v6 =>
  if v6 = true then
      some (false)
    else
      if (v2 == 1) = true then
        (if (fitI (fitI v5 0 32) 0 32 == rep 32 0) = true then
            (F_key_isShort v3 : Option Bool).bind fun (v7 : Bool) =>
            if v7 = true then
                (F_key_isShort v4 : Option Bool).bind fun (v8 : Bool) =>
                some (v8)
              else
                some (false)
          else
            some (false) : Option Bool).bind fun v9 =>
        some (v9)
      else
        if (v2 == 27) = true then
          (if (len v3 == 0) = true then
              some (len v4 == 0)
            else
              some (false) : Option Bool).bind fun v10 =>
          some (v10)
        else
          some (false)
noncomputable def fn_key_may : Fn := ⟨99, [.v (.st rapi_Key)], .pure (.one (.t (.v .bool))) 1, F_key_may⟩
theorem t_key_may : GoodAt Tryz.prog HH HSP 4 fn_key_may := goodAt_of (ho := HO) (l := [fn_key_isShort]) rfl (hl1 (t_key_isShort.up (by decide)) hl0) fun x => by kernel_rfl

noncomputable def F_key_Emit : Ps [.v (.st rapi_Key)] → Option (Rc.I (.pure (.tup [.t (.own 5), .t (.v (.int .i64))]) 1)) := fun ((v0, v1, v2, v3, v4, v5) : (Int × (Int × (Int × ((List V) × ((List V) × (List Int))))))) =>
  (F_key_may (v0, v1, v2, v3, v4, fitI v5 0 32) : Option Bool).bind fun (v6 : Bool) =>
  if (!v6) = true then
      some ((nilV, 1))
    else
      (F_key_material (v0, v1, v2, v3, v4, fitI v5 0 32) : Option (List V)).bind fun (v7 : (List V)) =>
      (F_key_put ([V.int .u8 (wu8 v0)], w64 v1, 4) : Option (List V)).bind fun (v8 : (List V)) =>
        if List.length v8 + 1 ≤ 2147483648 then
            (if (v0 == 6) = true then
                (F_key_put (all (v8 ++ [V.int .u8 (wu8 v2)]), len v7, 4) : Option (List V)).bind fun (v9 : (List V)) =>
                some (.inl ((v7, v9)))
              else
                some (.inl ((v7, v8 ++ [V.int .u8 (wu8 v2)]))) : Option (((List V) × (List V)) ⊕ ((List V) × Int))).bind fun v10 =>
            match v10 with
              | .inl (v11, v12) =>
                if List.length (all v12) + List.length (all v11) ≤ 2147483648 then
                  some ((all v12 ++ all v11, 0))
                else
                  none
              | .inr (v13, v14) =>
                some ((v13, v14))
          else
            none
noncomputable def fn_key_Emit : Fn := ⟨65, [.v (.st rapi_Key)], .pure (.tup [.t (.own 5), .t (.v (.int .i64))]) 1, F_key_Emit⟩
theorem t_key_Emit : GoodAt Tryz.prog HH HSP 7 fn_key_Emit := goodAt_of (ho := HO) (l := [fn_key_may, fn_key_material, fn_key_put]) rfl (hl1 (t_key_may.up (by decide)) (hl1 (t_key_material.up (by decide)) (hl1 (t_key_put.up (by decide)) hl0))) fun x => by kernel_rfl

noncomputable def F_cert_writer_putKey : Ps [.nd 71 [.own 68, .v .bool], .v (.int .i64), .v (.st rapi_Key)] → Option (Rc.I (.io (.tup []) [.nd 71 [.own 68, .v .bool], .t .dead, .t .dead])) := fun (((v0, v1), v2, v3, v4, v5, v6, v7, v8) : (((List V) × Bool) × (Int × (Int × (Int × (Int × ((List V) × ((List V) × (List Int))))))))) =>
  (F_key_Emit (v3, v4, v5, v6, v7, fitI v8 0 32) : Option ((List V) × Int)).bind fun ((v9, v10) : ((List V) × Int)) =>
  (F_cert_writer_put ((v0, v1), v2, all v9, v10 == 0) : Option (Unit × (((List V) × Bool) × (Unit × (Unit × Unit))))).bind fun ((v11, (v12, v13), v14, v15, v16) : (Unit × (((List V) × Bool) × (Unit × (Unit × Unit))))) =>
    some ((PUnit.unit, (v12, v13), PUnit.unit, PUnit.unit))
noncomputable def fn_cert_writer_putKey : Fn := ⟨34, [.nd 71 [.own 68, .v .bool], .v (.int .i64), .v (.st rapi_Key)], .io (.tup []) [.nd 71 [.own 68, .v .bool], .t .dead, .t .dead], F_cert_writer_putKey⟩
theorem t_cert_writer_putKey : GoodAt Tryz.prog HH HSP 8 fn_cert_writer_putKey := goodAt_of (ho := HO) (l := [fn_key_Emit, fn_cert_writer_put]) rfl (hl1 (t_key_Emit.up (by decide)) (hl1 (t_cert_writer_put.up (by decide)) hl0)) fun x => by kernel_rfl

noncomputable def F_literal_IsName : Ps [.v .str] → Option (Rc.I (.pure (.one (.t (.v .bool))) 1)) := fun (v0 : (List UInt8)) =>
  if List.length v0 ≤ 2147483648 then
    loopO (σ := (Bool × ((List V) × (Int × Int)))) (R := Bool) (fun (v1, v2, v3, v4) =>
      if decide (v4 < v3) = true then
        if 0 ≤ v4 ∧ v4 < len v2 then
          (v2[0 + Int.toNat v4]?).bind fun v5 =>
          ((V.cells v5)[0]?).bind fun v6 =>
            (V.int? .u8 v6).bind fun v7 =>
              if decide (v7 < 32) = true then
                  some (.inr (false))
                else
                  some (.inl ((v1, v2, v3, w64 (v4 + 1))))
        else
          none
      else
        some (.inr (decide (len v0 ≤ 500)))) ((false, bytesV v0, len (bytesV v0), 0))
  else
    none
noncomputable def fn_literal_IsName : Fn := ⟨37, [.v .str], .pure (.one (.t (.v .bool))) 1, F_literal_IsName⟩
theorem t_literal_IsName : GoodAt Tryz.prog HH HSP 1 fn_literal_IsName := goodAt_of (ho := HO) (l := []) rfl hl0 fun x => by kernel_rfl

noncomputable def F_cert_Emit : Ps [.v (.st rapi_Cert)] → Option (Rc.I (.pure (.tup [.t (.own 68), .t (.v (.int .i64))]) 1)) := fun ((v0, v1, v2, v3, v4, v5, v6, v7, v8) : (Int × (Int × (Int × ((List V) × ((List V) × ((List Int) × ((List V) × ((List V) × (List V)))))))))) =>
  (F_cert_writer_putKey ((nilV, false), 6, v0, v1, v2, v3, v4, fitI v5 0 32) : Option (Unit × (((List V) × Bool) × (Unit × Unit)))).bind fun ((v9, (v10, v11), v12, v13) : (Unit × (((List V) × Bool) × (Unit × Unit)))) =>
  (F_cert_writer_putSigs ((v10, v11), v6) : Option (Unit × (((List V) × Bool) × Unit))).bind fun ((v14, (v15, v16), v17) : (Unit × (((List V) × Bool) × Unit))) =>
    loopO (σ := (((List V) × Bool) × ((List V) × (Int × Int)))) (R := ((List V) × Int)) (fun ((v18, v19), v20, v21, v22) =>
        if decide (v22 < v21) = true then
          if 0 ≤ v22 then
            (v20[Int.toNat v22]?).bind fun v23 =>
            (V.st? [Cc.str, Cc.lst false 10] v23).bind fun (v24, v25) =>
              if List.length v24 ≤ 2147483648 then
                  (F_literal_IsName v24 : Option Bool).bind fun (v26 : Bool) =>
                  (F_cert_writer_put ((v18, v19), 13, bytesV v24, v26) : Option (Unit × (((List V) × Bool) × (Unit × (Unit × Unit))))).bind fun ((v27, (v28, v29), v30, v31, v32) : (Unit × (((List V) × Bool) × (Unit × (Unit × Unit))))) =>
                    (F_cert_writer_putSigs ((v28, v29), v25) : Option (Unit × (((List V) × Bool) × Unit))).bind fun ((v33, (v34, v35), v36) : (Unit × (((List V) × Bool) × Unit))) =>
                      some (.inl (((v34, v35), v20, v21, w64 (v22 + 1))))
                else
                  none
          else
            none
        else
          (loopO (σ := (((List V) × Bool) × ((List V) × (Int × Int)))) (R := ((List V) × Int)) (fun ((v37, v38), v39, v40, v41) =>
              if decide (v41 < v40) = true then
                if 0 ≤ v41 then
                  (v39[Int.toNat v41]?).bind fun v42 =>
                  (V.st? [Cc.int .i64, Cc.int .u32, Cc.int .i64, Cc.lst false 1, Cc.lst false 1, Cc.arr .u8 32, Cc.lst false 10] v42).bind fun (v43, v44, v45, v46, v47, v48, v49) =>
                    (F_cert_writer_putKey ((v37, v38), 14, v43, v44, v45, v46, v47, fitI (fitI v48 0 32) 0 32) : Option (Unit × (((List V) × Bool) × (Unit × Unit)))).bind fun ((v50, (v51, v52), v53, v54) : (Unit × (((List V) × Bool) × (Unit × Unit)))) =>
                      (F_cert_writer_putSigs ((v51, v52), v49) : Option (Unit × (((List V) × Bool) × Unit))).bind fun ((v55, (v56, v57), v58) : (Unit × (((List V) × Bool) × Unit))) =>
                        some (.inl (((v56, v57), v39, v40, w64 (v41 + 1))))
                else
                  none
              else
                (if v38 = true then
                    some ((nilV, 1))
                  else
                    (F_cert_passes (v0, v1, v2, v3, v4, fitI v5 0 32, v6, v7, v8) : Option Bool).bind fun (v59 : Bool) =>
                    if v59 = true then
                        some ((nilV, 4))
                      else
                        some ((all v37, 0)) : Option ((List V) × Int)).bind fun (v60, v61) =>
                some (.inr ((v60, v61)))) (((v18, v19), v8, len v8, 0)) : Option ((List V) × Int)).bind fun (v62, v63) =>
          some (.inr ((v62, v63)))) (((v15, v16), v7, len v7, 0))
noncomputable def fn_cert_Emit : Fn := ⟨15, [.v (.st rapi_Cert)], .pure (.tup [.t (.own 68), .t (.v (.int .i64))]) 1, F_cert_Emit⟩
theorem t_cert_Emit : GoodAt Tryz.prog HH HSP 10 fn_cert_Emit := goodAt_of (ho := HO) (l := [fn_cert_writer_putKey, fn_cert_writer_putSigs, fn_literal_IsName, fn_cert_writer_put, fn_cert_passes]) rfl (hl1 (t_cert_writer_putKey.up (by decide)) (hl1 (t_cert_writer_putSigs.up (by decide)) (hl1 (t_literal_IsName.up (by decide)) (hl1 (t_cert_writer_put.up (by decide)) (hl1 (t_cert_passes.up (by decide)) hl0))))) fun x => by kernel_rfl

noncomputable def F_cert_Same : Ps [.v (.st rapi_Cert), .v (.st rapi_Cert)] → Option (Rc.I (.pure (.one (.t (.v .bool))) 2)) := fun (((v0, v1, v2, v3, v4, v5, v6, v7, v8), v9, v10, v11, v12, v13, v14, v15, v16, v17) : ((Int × (Int × (Int × ((List V) × ((List V) × ((List Int) × ((List V) × ((List V) × (List V))))))))) × (Int × (Int × (Int × ((List V) × ((List V) × ((List Int) × ((List V) × ((List V) × (List V))))))))))) =>
  (F_cert_Emit (v0, v1, v2, v3, v4, fitI v5 0 32, v6, v7, v8) : Option ((List V) × Int)).bind fun ((v18, v19) : ((List V) × Int)) =>
  (F_cert_Emit (v9, v10, v11, v12, v13, fitI v14 0 32, v15, v16, v17) : Option ((List V) × Int)).bind fun ((v20, v21) : ((List V) × Int)) =>
    (if (v19 == 0) = true then
          if (v21 == 0) = true then
            if (len (all v18) != len (all v20)) = true then
              some (false)
            else
              loopO (σ := ((List V) × (Unit × (Bool × ((List V) × (Int × Int)))))) (R := Bool) (fun (v22, v23, v24, v25, v26, v27) =>
                if decide (v27 < v26) = true then
                  if 0 ≤ v27 then
                    (v25[Int.toNat v27]?).bind fun v28 =>
                    (V.st? [Cc.int .i64, Cc.lst false 1] v28).bind fun (v29, v30) =>
                      if 0 ≤ v27 then
                          (v22[Int.toNat v27]?).bind fun v31 =>
                          (V.st? [Cc.int .i64, Cc.lst false 1] v31).bind fun (v32, v33) =>
                            (F_cert_Same_1 ((v29, v30), v32, v33) : Option Bool).bind fun (v34 : Bool) =>
                              if (!v34) = true then
                                  some (.inr (false))
                                else
                                  some (.inl ((v22, PUnit.unit, v24, v25, v26, w64 (v27 + 1))))
                        else
                          none
                  else
                    none
                else
                  some (.inr (true))) ((all v20, PUnit.unit, false, all v18, len (all v18), 0))
          else
            some (false)
        else
          some (false) : Option Bool).bind fun v35 =>
      some (v35)
noncomputable def fn_cert_Same : Fn := ⟨18, [.v (.st rapi_Cert), .v (.st rapi_Cert)], .pure (.one (.t (.v .bool))) 2, F_cert_Same⟩
theorem t_cert_Same : GoodAt Tryz.prog HH HSP 16 fn_cert_Same := goodAt_in (ho := HO) (n := 5) (d := 10) (inl := INL) (l := [fn_cert_Emit, fn_cert_Same_1]) rfl INL_told (hl1 (t_cert_Emit.up (by decide)) (hl1 (t_cert_Same_1.up (by decide)) hl0)) fun x => by kernel_rfl

noncomputable def F_affiantlaw27_alive : Ps [] → Option (Rc.I (.pure (.one (.t (.v .bool))) 0)) := fun (v0 : Unit) =>
  (F_cert_Emit (4, 0, 27, nilV, nilV, rep 32 0, nilV, nilV, nilV) : Option ((List V) × Int)).bind fun ((v1, v2) : ((List V) × Int)) =>
  (if (v2 == 0) = true then
        if (len v1 == 1) = true then
          if idI 0 ≤ 0 ∧ 0 < len v1 then
            (v1[0]?).bind fun v3 =>
            ((V.cells v3)[0]?).bind fun v4 =>
              (V.int? .i64 v4).bind fun v5 =>
                if (v5 == 6) = true then
                    some (idI 8 == 8)
                  else
                    some (false)
          else
            none
        else
          some (false)
      else
        some (false) : Option Bool).bind fun v6 =>
    some (v6)
noncomputable def fn_affiantlaw27_alive : Fn := ⟨14, [], .pure (.one (.t (.v .bool))) 0, F_affiantlaw27_alive⟩
theorem t_affiantlaw27_alive : GoodAt Tryz.prog HH HSP 16 fn_affiantlaw27_alive := goodAt_in (ho := HO) (n := 5) (d := 10) (inl := INL) (l := [fn_cert_Emit, fn_cert_passes, fn_bytes_Clone]) rfl INL_told (hl1 (t_cert_Emit.up (by decide)) (hl1 (t_cert_passes.up (by decide)) (hl1 (t_bytes_Clone.up (by decide)) hl0))) fun x => by kernel_rfl

noncomputable def F_affiantref21_Small : Ps [.v (.lst true 3)] → Option (Rc.I (.pure (.one (.t (.v .bool))) 1)) := fun (v0 : (List V)) =>
  loopO (σ := ((List V) × (Bool × (Int × Int)))) (R := Bool) (fun (v1, v2, v3, v4) =>
    if decide (v4 < len v1) = true then
      if 0 ≤ v4 then
        (v1[Int.toNat v4]?).bind fun v5 =>
        (V.st? [Cc.int .i64, Cc.bool, Cc.lst false 1] v5).bind fun (v6, v7, v8) =>
          (if (v4 == 60) = false then
                some (decide (w64 (v3 + len v8) > 5000))
              else
                some (true) : Option Bool).bind fun v9 =>
            if v9 = true then
                some (.inr (false))
              else
                some (.inl ((v1, v2, w64 (v3 + len v8), w64 (v4 + 1))))
      else
        none
    else
      some (.inr (true))) ((v0, false, 0, 0))
noncomputable def fn_affiantref21_Small : Fn := ⟨20, [.v (.lst true 3)], .pure (.one (.t (.v .bool))) 1, F_affiantref21_Small⟩
theorem t_affiantref21_Small : GoodAt Tryz.prog HH HSP 1 fn_affiantref21_Small := goodAt_of (ho := HO) (l := []) rfl hl0 fun x => by kernel_rfl

noncomputable def F_affiantref22_Small : Ps [.v (.st rapi_Sig)] → Option (Rc.I (.pure (.one (.t (.v .bool))) 1)) := fun ((v0, v1, v2, v3, v4, v5, v6, v7, v8, v9) : (Int × (Int × (Int × (Int × ((List V) × ((List V) × (Int × (Int × ((List V) × (List V))))))))))) =>
  ((F_affiantref21_Small v4 : Option Bool).bind fun (v10 : Bool) =>
    if v10 = true then
        (F_affiantref21_Small v5 : Option Bool).bind fun (v11 : Bool) =>
        if v11 = true then
            if decide (len v8 ≤ 100) = true then
              some (decide (len v9 ≤ 2100))
            else
              some (false)
          else
            some (false)
      else
        some (false) : Option Bool).bind fun v12 =>
  some (v12)
noncomputable def fn_affiantref22_Small : Fn := ⟨5, [.v (.st rapi_Sig)], .pure (.one (.t (.v .bool))) 1, F_affiantref22_Small⟩
theorem t_affiantref22_Small : GoodAt Tryz.prog HH HSP 2 fn_affiantref22_Small := goodAt_of (ho := HO) (l := [fn_affiantref21_Small]) rfl (hl1 (t_affiantref21_Small.up (by decide)) hl0) fun x => by kernel_rfl

noncomputable def F_affiantref27_sigsSmall : Ps [.v (.lst true 10)] → Option (Rc.I (.pure (.one (.t (.v .bool))) 1)) := fun (v0 : (List V)) =>
  loopO (σ := ((List V) × (Bool × Int))) (R := Bool) (fun (v1, v2, v3) =>
    if decide (v3 < len v1) = true then
      (if (v3 == 34) = false then
          if 0 ≤ v3 then
            (v1[Int.toNat v3]?).bind fun v4 =>
            (V.st? [Cc.int .i64, Cc.int .i64, Cc.int .i64, Cc.int .i64, Cc.lst false 3, Cc.lst false 3, Cc.int .u8, Cc.int .u8, Cc.lst false 1, Cc.lst false 1] v4).bind fun (v5, v6, v7, v8, v9, v10, v11, v12, v13, v14) =>
              (F_affiantref22_Small (v5, v6, v7, v8, v9, v10, v11, v12, v13, v14) : Option Bool).bind fun (v15 : Bool) =>
                some (!v15)
          else
            none
        else
          some (true) : Option Bool).bind fun v16 =>
      if v16 = true then
          some (.inr (false))
        else
          some (.inl ((v1, v2, w64 (v3 + 1))))
    else
      some (.inr (true))) ((v0, false, 0))
noncomputable def fn_affiantref27_sigsSmall : Fn := ⟨32, [.v (.lst true 10)], .pure (.one (.t (.v .bool))) 1, F_affiantref27_sigsSmall⟩
theorem t_affiantref27_sigsSmall : GoodAt Tryz.prog HH HSP 3 fn_affiantref27_sigsSmall := goodAt_of (ho := HO) (l := [fn_affiantref22_Small]) rfl (hl1 (t_affiantref22_Small.up (by decide)) hl0) fun x => by kernel_rfl

noncomputable def F_affiantref23_Small : Ps [.v (.st rapi_Key)] → Option (Rc.I (.pure (.one (.t (.v .bool))) 1)) := fun ((v0, v1, v2, v3, v4, v5) : (Int × (Int × (Int × ((List V) × ((List V) × (List Int))))))) =>
  (if decide (len v3 ≤ 520) = true then
      some (decide (len v4 ≤ 520))
    else
      some (false) : Option Bool).bind fun v6 =>
  some (v6)
noncomputable def fn_affiantref23_Small : Fn := ⟨31, [.v (.st rapi_Key)], .pure (.one (.t (.v .bool))) 1, F_affiantref23_Small⟩
theorem t_affiantref23_Small : GoodAt Tryz.prog HH HSP 1 fn_affiantref23_Small := goodAt_of (ho := HO) (l := []) rfl hl0 fun x => by kernel_rfl

noncomputable def F_affiantref27_Small : Ps [.v (.st rapi_Cert)] → Option (Rc.I (.pure (.one (.t (.v .bool))) 1)) := fun ((v0, v1, v2, v3, v4, v5, v6, v7, v8) : (Int × (Int × (Int × ((List V) × ((List V) × ((List Int) × ((List V) × ((List V) × (List V)))))))))) =>
  ((F_affiantref23_Small (v0, v1, v2, v3, v4, fitI v5 0 32) : Option Bool).bind fun (v9 : Bool) =>
    if (!v9) = false then
        (F_affiantref27_sigsSmall v6 : Option Bool).bind fun (v10 : Bool) =>
        if (!v10) = false then
            if decide (len v7 > 34) = false then
              some (decide (len v8 > 34))
            else
              some (true)
          else
            some (true)
      else
        some (true) : Option Bool).bind fun v11 =>
  if v11 = true then
      some (false)
    else
      loopO (σ := ((Int × (Int × (Int × ((List V) × ((List V) × ((List Int) × ((List V) × ((List V) × (List V))))))))) × (Bool × (Int × Int)))) (R := Bool) (fun ((v12, v13, v14, v15, v16, v17, v18, v19, v20), v21, v22, v23) =>
        if decide (v23 < len v19) = true then
          if 0 ≤ v23 then
            (v19[Int.toNat v23]?).bind fun v24 =>
            (V.st? [Cc.str, Cc.lst false 10] v24).bind fun (v25, v26) =>
              (if decide (w64 (v22 + len v26) > 60) = false then
                    if 0 ≤ v23 then
                      (v19[Int.toNat v23]?).bind fun v27 =>
                      (V.st? [Cc.str, Cc.lst false 10] v27).bind fun (v28, v29) =>
                        if decide (len v28 > 600) = false then
                            if 0 ≤ v23 then
                              (v19[Int.toNat v23]?).bind fun v30 =>
                              (V.st? [Cc.str, Cc.lst false 10] v30).bind fun (v31, v32) =>
                                (F_affiantref27_sigsSmall v32 : Option Bool).bind fun (v33 : Bool) =>
                                  some (!v33)
                            else
                              none
                          else
                            some (true)
                    else
                      none
                  else
                    some (true) : Option Bool).bind fun v34 =>
                if v34 = true then
                    some (.inr (false))
                  else
                    some (.inl (((v12, v13, v14, v15, v16, fitI v17 0 32, v18, v19, v20), v21, w64 (v22 + len v26), w64 (v23 + 1))))
          else
            none
        else
          (loopO (σ := ((Int × (Int × (Int × ((List V) × ((List V) × ((List Int) × ((List V) × ((List V) × (List V))))))))) × (Bool × (Int × Int)))) (R := Bool) (fun ((v35, v36, v37, v38, v39, v40, v41, v42, v43), v44, v45, v46) =>
              if decide (v46 < len v43) = true then
                if 0 ≤ v46 then
                  (v43[Int.toNat v46]?).bind fun v47 =>
                  (V.st? [Cc.int .i64, Cc.int .u32, Cc.int .i64, Cc.lst false 1, Cc.lst false 1, Cc.arr .u8 32, Cc.lst false 10] v47).bind fun (v48, v49, v50, v51, v52, v53, v54) =>
                    (if decide (w64 (v45 + len v54) > 60) = false then
                          if 0 ≤ v46 then
                            (v43[Int.toNat v46]?).bind fun v55 =>
                            (V.st? [Cc.int .i64, Cc.int .u32, Cc.int .i64, Cc.lst false 1, Cc.lst false 1, Cc.arr .u8 32, Cc.lst false 10] v55).bind fun (v56, v57, v58, v59, v60, v61, v62) =>
                              (F_affiantref23_Small (v56, v57, v58, v59, v60, fitI (fitI v61 0 32) 0 32) : Option Bool).bind fun (v63 : Bool) =>
                                if (!v63) = false then
                                    if 0 ≤ v46 then
                                      (v43[Int.toNat v46]?).bind fun v64 =>
                                      (V.st? [Cc.int .i64, Cc.int .u32, Cc.int .i64, Cc.lst false 1, Cc.lst false 1, Cc.arr .u8 32, Cc.lst false 10] v64).bind fun (v65, v66, v67, v68, v69, v70, v71) =>
                                        (F_affiantref27_sigsSmall v71 : Option Bool).bind fun (v72 : Bool) =>
                                          some (!v72)
                                    else
                                      none
                                  else
                                    some (true)
                          else
                            none
                        else
                          some (true) : Option Bool).bind fun v73 =>
                      if v73 = true then
                          some (.inr (false))
                        else
                          some (.inl (((v35, v36, v37, v38, v39, fitI v40 0 32, v41, v42, v43), v44, w64 (v45 + len v54), w64 (v46 + 1))))
                else
                  none
              else
                some (.inr (true))) (((v12, v13, v14, v15, v16, fitI v17 0 32, v18, v19, v20), v21, v22, 0)) : Option Bool).bind fun v74 =>
          some (.inr (v74))) (((v0, v1, v2, v3, v4, fitI v5 0 32, v6, v7, v8), false, len v6, 0))
noncomputable def fn_affiantref27_Small : Fn := ⟨13, [.v (.st rapi_Cert)], .pure (.one (.t (.v .bool))) 1, F_affiantref27_Small⟩
theorem t_affiantref27_Small : GoodAt Tryz.prog HH HSP 4 fn_affiantref27_Small := goodAt_of (ho := HO) (l := [fn_affiantref23_Small, fn_affiantref27_sigsSmall]) rfl (hl1 (t_affiantref23_Small.up (by decide)) (hl1 (t_affiantref27_sigsSmall.up (by decide)) hl0)) fun x => by kernel_rfl

noncomputable def F_affiantlaw27_CertEmit : Ps [.v (.st rapi_Cert), .v (.st rapi_Cert)] → Option (Rc.I (.pure (.one (.t (.v .bool))) 2)) := fun (((v0, v1, v2, v3, v4, v5, v6, v7, v8), v9, v10, v11, v12, v13, v14, v15, v16, v17) : ((Int × (Int × (Int × ((List V) × ((List V) × ((List Int) × ((List V) × ((List V) × (List V))))))))) × (Int × (Int × (Int × ((List V) × ((List V) × ((List Int) × ((List V) × ((List V) × (List V))))))))))) =>
  ((F_affiantref27_Small (v0, v1, v2, v3, v4, fitI v5 0 32, v6, v7, v8) : Option Bool).bind fun (v18 : Bool) =>
    if (!v18) = false then
        (F_affiantref27_Small (v9, v10, v11, v12, v13, fitI v14 0 32, v15, v16, v17) : Option Bool).bind fun (v19 : Bool) =>
        some (!v19)
      else
        some (true) : Option Bool).bind fun v20 =>
  if v20 = true then
      (F_affiantlaw27_alive PUnit.unit : Option Bool).bind fun (v21 : Bool) =>
      some (v21)
    else
      (F_cert_Emit (v0, v1, v2, v3, v4, fitI v5 0 32, v6, v7, v8) : Option ((List V) × Int)).bind fun ((v22, v23) : ((List V) × Int)) =>
      (F_affiantref27_Emit (v0, v1, v2, v3, v4, fitI v5 0 32, v6, v7, v8) : Option ((List V) × Int)).bind fun ((v24, v25) : ((List V) × Int)) =>
        ((F_affiantlaw27_alive PUnit.unit : Option Bool).bind fun (v26 : Bool) =>
            if v26 = true then
                (F_affiantref19_Same (all v22, all v24) : Option Bool).bind fun (v27 : Bool) =>
                if v27 = true then
                    if (v23 == v25) = true then
                      (F_cert_Same ((v0, v1, v2, v3, v4, fitI v5 0 32, v6, v7, v8), v9, v10, v11, v12, v13, fitI v14 0 32, v15, v16, v17) : Option Bool).bind fun (v28 : Bool) =>
                      (F_affiantref27_Same ((v0, v1, v2, v3, v4, fitI v5 0 32, v6, v7, v8), v9, v10, v11, v12, v13, fitI v14 0 32, v15, v16, v17) : Option Bool).bind fun (v29 : Bool) =>
                        some (v28 == v29)
                    else
                      some (false)
                  else
                    some (false)
              else
                some (false) : Option Bool).bind fun v30 =>
          some (v30)
noncomputable def fn_affiantlaw27_CertEmit : Fn := ⟨4, [.v (.st rapi_Cert), .v (.st rapi_Cert)], .pure (.one (.t (.v .bool))) 2, F_affiantlaw27_CertEmit⟩
theorem t_affiantlaw27_CertEmit : GoodAt Tryz.prog HH HSP 17 fn_affiantlaw27_CertEmit := goodAt_of (ho := HO) (l := [fn_affiantref27_Small, fn_affiantlaw27_alive, fn_cert_Emit, fn_affiantref27_Emit, fn_affiantref19_Same, fn_cert_Same, fn_affiantref27_Same]) rfl (hl1 (t_affiantref27_Small.up (by decide)) (hl1 (t_affiantlaw27_alive.up (by decide)) (hl1 (t_cert_Emit.up (by decide)) (hl1 (t_affiantref27_Emit.up (by decide)) (hl1 (t_affiantref19_Same.up (by decide)) (hl1 (t_cert_Same.up (by decide)) (hl1 (t_affiantref27_Same.up (by decide)) hl0))))))) fun x => by kernel_rfl


end Go.Proofs.YtffofdfikmpanaaGreat.A
