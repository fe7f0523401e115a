/- What the program's functions come to. Conditions: none. -/
import Derived.Test.YtffofdfikmpanaaDoorLE
import Derived.Test.YtffofdfikmpanaaDoorChecked
set_option linter.unusedVariables false
set_option linter.unusedSimpArgs false
set_option linter.constructorNameAsVariable false
set_option linter.unusedSectionVars false

namespace Go.Proofs.YtffofdfikmpanaaDoor.A
open Go Go.Proofs
set_option maxRecDepth 100000
noncomputable def HH : Hints := { ht := fun f => match Tryd.prog.funcs[f]? with | some fn => funcHTz (match f with | 24 => [2] | 5 => [2000005] | _ => []) fn | none => .z, mode := fun f k => match f, k with | 22, 0 => 2 | 20, 0 => 2 | 7, 0 => 2 | 24, 0 => 2 | 23, 0 => 2 | 12, 0 => 2 | 10, 0 => 2 | 16, 0 => 2 | 4, 0 => 2 | 14, 0 => 2 | _, _ => 0, give := fun f d => match f with | 7 => [2].contains d | 23 => [6].contains d | 12 => [2].contains d | 10 => [2].contains d | 16 => [2].contains d | 25 => [4].contains d | 11 => [2].contains d | 9 => [2].contains d | 17 => [2].contains d | 15 => [2].contains d | 14 => [2].contains d | 13 => [2].contains d | _ => false, same := fun f => false, raw := fun t => [].contains t, iter := fun f caps => match f, caps with | _, _ => none, iterO := fun f x => match f, x with | 27, .opt _ [.p (.sl s _ 1 es)] => eachItems s es | _, _ => none, ownC := fun f => [27].contains f }
noncomputable def HO : Ho := { item := fun f => match f with | 27 => [.lst false 1] | _ => [], bigT := fun t => [].contains t }
noncomputable def HSP : Told := fun f => match f with | 21 => some (fun args => match args with | [.v (.sl true false 1 es)] => if es.length ≤ 2147483648 then some (.own 5 es, [.dead]) else none | _ => none) | 22 => some (fun args => match args with | [.v (.sl false false 1 es), .v (.str cs)] => (trimRItems es cs).map (fun l => (.p (.sl false false 1 l), [.dead, .dead])) | _ => none) | 18 => some (fun args => match args with | [.v (.str s)] => some (.p (.bool (isWordB s)), [.dead]) | _ => none) | _ => none
noncomputable def F_bytes_Clone : Ps [.v (.lst true 1)] → Option (Rc.I (.pure (.one (.t (.own 5))) 1)) := fun l => if l.length ≤ 2147483648 then some l else none
noncomputable def fn_bytes_Clone : Fn := ⟨21, [.v (.lst true 1)], .pure (.one (.t (.own 5))) 1, F_bytes_Clone⟩
theorem t_bytes_Clone : GoodAt Tryd.prog HH HSP 1 fn_bytes_Clone := goodAt_told rfl fun (x : List V) y h => by have h : (if x.length ≤ 2147483648 then some x else none) = some y := h; split at h <;> first | (rename_i hx; cases h; exact if_pos hx) | cases h
noncomputable def F_bytes_TrimRight : Ps [.v (.lst false 1), .v .str] → Option (Rc.I (.pure (.one (.t (.v (.lst false 1)))) 2)) := fun (es, cs) => trimRItems es cs
noncomputable def fn_bytes_TrimRight : Fn := ⟨22, [.v (.lst false 1), .v .str], .pure (.one (.t (.v (.lst false 1)))) 2, F_bytes_TrimRight⟩
theorem t_bytes_TrimRight : GoodAt Tryd.prog HH HSP 1 fn_bytes_TrimRight := goodAt_told rfl fun (x : List V × List UInt8) y h => by have h : trimRItems x.1 x.2 = some y := h; exact (congrArg (Option.map _) h).trans rfl
noncomputable def F_text_IsWord : Ps [.v .str] → Option (Rc.I (.pure (.one (.t (.v .bool))) 1)) := fun s => some (isWordB s)
noncomputable def fn_text_IsWord : Fn := ⟨18, [.v .str], .pure (.one (.t (.v .bool))) 1, F_text_IsWord⟩
theorem t_text_IsWord : GoodAt Tryd.prog HH HSP 1 fn_text_IsWord := goodAt_told rfl fun (x : List UInt8) y h => by cases h; rfl
noncomputable def F_affiantref15_Same : Ps [.v (.lst true 1), .v (.lst true 1)] → Option (Rc.I (.pure (.one (.t (.v .bool))) 2)) := fun ((v0, v1) : ((List V) × (List V))) =>
  if (len v0 != len v1) = true then
    some (false)
  else
    loopO (σ := ((List V) × ((List V) × (Bool × Int)))) (R := Bool) (fun (v2, v3, v4, v5) =>
      if decide (v5 < len v2) = true then
        if 0 ≤ v5 then
          (v2[Int.toNat v5]?).bind fun v6 =>
          (V.lst? false 1 v6).bind fun v7 =>
            (unbytes v7).bind fun v8 =>
              if 0 ≤ v5 then
                  (v3[Int.toNat v5]?).bind fun v9 =>
                  (V.lst? false 1 v9).bind fun v10 =>
                    (unbytes v10).bind fun v11 =>
                      if (!v8 == v11) = true then
                          some (.inr (false))
                        else
                          some (.inl ((v2, v3, v4, w64 (v5 + 1))))
                else
                  none
        else
          none
      else
        some (.inr (true))) ((v0, v1, false, 0))
noncomputable def fn_affiantref15_Same : Fn := ⟨8, [.v (.lst true 1), .v (.lst true 1)], .pure (.one (.t (.v .bool))) 2, F_affiantref15_Same⟩
theorem t_affiantref15_Same : GoodAt Tryd.prog HH HSP 1 fn_affiantref15_Same := goodAt_of (ho := HO) (l := []) rfl hl0 fun x => by kernel_rfl

noncomputable def F_text_each : Ps [.v (.lst false 1)] → Option (Rc.I (.pure (.one (.t (.clo 27 22 (.lst false 1)))) 1)) := fun (v0 : (List V)) =>
  some (v0)
noncomputable def fn_text_each : Fn := ⟨20, [.v (.lst false 1)], .pure (.one (.t (.clo 27 22 (.lst false 1)))) 1, F_text_each⟩
theorem t_text_each : GoodAt Tryd.prog HH HSP 1 fn_text_each := goodAt_of (ho := HO) (l := []) rfl hl0 fun x => by kernel_rfl

noncomputable def F_text_Lines : Ps [.v (.lst false 1)] → Option (Rc.I (.pure (.one (.t (.own 22))) 1)) := fun (v0 : (List V)) =>
  (F_text_each v0).bind fun (v1 : (List V)) =>
  (eachItems false v1).bind fun v2 =>
    loopO (σ := ((List (List V)) × (List V))) (R := (List V)) (fun (v3, v4) =>
        match v3 with
        | [] =>
          some (.inr (all v4))
        | v5 :: v6 =>
          (v5[0]?).bind fun v7 =>
          (V.lst? false 1 v7).bind fun v8 =>
            if List.length v5 = 1 then
                (if List.length v8 ≤ 2147483648 then
                    some (v8)
                  else
                    none : Option (List V)).bind fun v9 =>
                if List.length (all v4) + 1 ≤ 2147483648 then
                    some (.inl ((v6, all v4 ++ [V.sl false false 1 v9])))
                  else
                    none
              else
                none) ((v2, nilV))
noncomputable def fn_text_Lines : Fn := ⟨7, [.v (.lst false 1)], .pure (.one (.t (.own 22))) 1, F_text_Lines⟩
theorem t_text_Lines : GoodAt Tryd.prog HH HSP 2 fn_text_Lines := goodAt_of (ho := HO) (l := [fn_text_each, fn_bytes_Clone]) rfl (hl1 (t_text_each.up (by decide)) (hl1 (t_bytes_Clone.up (by decide)) hl0)) fun x => by kernel_rfl

noncomputable def F_text_asIs : Ps [.v (.lst false 1)] → Option (Rc.I (.pure (.one (.t (.v (.lst false 1)))) 1)) := fun (v0 : (List V)) =>
  some (v0)
noncomputable def fn_text_asIs : Fn := ⟨24, [.v (.lst false 1)], .pure (.one (.t (.v (.lst false 1)))) 1, F_text_asIs⟩
theorem t_text_asIs : GoodAt Tryd.prog HH HSP 1 fn_text_asIs := goodAt_of (ho := HO) (l := []) rfl hl0 fun x => by kernel_rfl

noncomputable def F_text_join__text_asIs : Ps [.v (.lst false 1), .v .str, .v (.fn0 24)] → Option (Rc.I (.pure (.one (.t (.own 5))) 3)) := fun ((v0, v1, v2) : ((List V) × ((List UInt8) × Unit))) =>
  (F_text_each v0).bind fun (v3 : (List V)) =>
  (eachItems false v3).bind fun v4 =>
    loopO (σ := ((List (List V)) × ((List UInt8) × (Unit × ((List V) × Bool))))) (R := (List V)) (fun (v5, v6, v7, v8, v9) =>
        match v5 with
        | [] =>
          some (.inr (all v8))
        | v10 :: v11 =>
          (v10[0]?).bind fun v12 =>
          (V.lst? false 1 v12).bind fun v13 =>
            if List.length v10 = 1 then
                (if (!v9) = true then
                    if List.length (all v8) + List.length (bytesV v6) ≤ 2147483648 then
                      some (.inl ((v6, all v8 ++ bytesV v6)))
                    else
                      none
                  else
                    some (.inl ((v6, v8))) : Option (((List UInt8) × (List V)) ⊕ (((List (List V)) × ((List UInt8) × (Unit × ((List V) × Bool)))) ⊕ (List V)))).bind fun v14 =>
                match v14 with
                  | .inl (v15, v16) =>
                    (F_text_asIs v13).bind fun (v17 : (List V)) =>
                    if List.length (all v16) + List.length v17 ≤ 2147483648 then
                        some (.inl ((v11, v15, PUnit.unit, all v16 ++ v17, false)))
                      else
                        none
                  | .inr v18 =>
                    some (v18)
              else
                none) ((v4, v1, PUnit.unit, nilV, true))
noncomputable def fn_text_join__text_asIs : Fn := ⟨23, [.v (.lst false 1), .v .str, .v (.fn0 24)], .pure (.one (.t (.own 5))) 3, F_text_join__text_asIs⟩
theorem t_text_join__text_asIs : GoodAt Tryd.prog HH HSP 2 fn_text_join__text_asIs := goodAt_of (ho := HO) (l := [fn_text_each, fn_text_asIs]) rfl (hl1 (t_text_each.up (by decide)) (hl1 (t_text_asIs.up (by decide)) hl0)) fun x => by kernel_rfl

noncomputable def F_text_Canon : Ps [.v (.lst false 1)] → Option (Rc.I (.pure (.one (.t (.own 5))) 1)) := fun (v0 : (List V)) =>
  (F_text_join__text_asIs (v0, by8 [13, 10], PUnit.unit)).bind fun (v1 : (List V)) =>
  some (v1)
noncomputable def fn_text_Canon : Fn := ⟨12, [.v (.lst false 1)], .pure (.one (.t (.own 5))) 1, F_text_Canon⟩
theorem t_text_Canon : GoodAt Tryd.prog HH HSP 3 fn_text_Canon := goodAt_of (ho := HO) (l := [fn_text_join__text_asIs]) rfl (hl1 (t_text_join__text_asIs.up (by decide)) hl0) fun x => by kernel_rfl

noncomputable def F_text_Trim : Ps [.v (.lst false 1)] → Option (Rc.I (.pure (.one (.t (.own 5))) 1)) := fun (v0 : (List V)) =>
  (if (decide (List.length v0 ≤ 4611686018427387904) && List.all v0 V.isU8 && decide (2 ≤ List.length (by8 [32, 9])) && decide (List.length (by8 [32, 9]) < 4294967281) && List.all (by8 [32, 9]) fun c => decide (UInt8.toNat c < 128)) = true then
      some (trimRV (by8 [32, 9]) v0)
    else
      none : Option (List V)).bind fun v1 =>
  (if List.length v1 ≤ 2147483648 then
        some (v1)
      else
        none : Option (List V)).bind fun v2 =>
    some (v2)
noncomputable def fn_text_Trim : Fn := ⟨10, [.v (.lst false 1)], .pure (.one (.t (.own 5))) 1, F_text_Trim⟩
theorem t_text_Trim : GoodAt Tryd.prog HH HSP 2 fn_text_Trim := goodAt_of (ho := HO) (l := [fn_bytes_TrimRight, fn_bytes_Clone]) rfl (hl1 (t_bytes_TrimRight.up (by decide)) (hl1 (t_bytes_Clone.up (by decide)) hl0)) fun x => by kernel_rfl

noncomputable def F_text_join__text_Trim : Ps [.v (.lst false 1), .v .str, .v (.fn0 10)] → Option (Rc.I (.pure (.one (.t (.own 5))) 3)) := fun ((v0, v1, v2) : ((List V) × ((List UInt8) × Unit))) =>
  (F_text_each v0).bind fun (v3 : (List V)) =>
  (eachItems false v3).bind fun v4 =>
    loopO (σ := ((List (List V)) × ((List UInt8) × (Unit × ((List V) × Bool))))) (R := (List V)) (fun (v5, v6, v7, v8, v9) =>
        match v5 with
        | [] =>
          some (.inr (all v8))
        | v10 :: v11 =>
          (v10[0]?).bind fun v12 =>
          (V.lst? false 1 v12).bind fun v13 =>
            if List.length v10 = 1 then
                (if (!v9) = true then
                    if List.length (all v8) + List.length (bytesV v6) ≤ 2147483648 then
                      some (.inl ((v6, all v8 ++ bytesV v6)))
                    else
                      none
                  else
                    some (.inl ((v6, v8))) : Option (((List UInt8) × (List V)) ⊕ (((List (List V)) × ((List UInt8) × (Unit × ((List V) × Bool)))) ⊕ (List V)))).bind fun v14 =>
                match v14 with
                  | .inl (v15, v16) =>
                    (F_text_Trim v13).bind fun (v17 : (List V)) =>
                    if List.length (all v16) + List.length (all v17) ≤ 2147483648 then
                        some (.inl ((v11, v15, PUnit.unit, all v16 ++ all v17, false)))
                      else
                        none
                  | .inr v18 =>
                    some (v18)
              else
                none) ((v4, v1, PUnit.unit, nilV, true))
noncomputable def fn_text_join__text_Trim : Fn := ⟨23, [.v (.lst false 1), .v .str, .v (.fn0 10)], .pure (.one (.t (.own 5))) 3, F_text_join__text_Trim⟩
theorem t_text_join__text_Trim : GoodAt Tryd.prog HH HSP 3 fn_text_join__text_Trim := goodAt_of (ho := HO) (l := [fn_text_each, fn_text_Trim]) rfl (hl1 (t_text_each.up (by decide)) (hl1 (t_text_Trim.up (by decide)) hl0)) fun x => by kernel_rfl

noncomputable def F_text_Signed : Ps [.v (.lst false 1)] → Option (Rc.I (.pure (.one (.t (.own 5))) 1)) := fun (v0 : (List V)) =>
  (F_text_join__text_Trim (v0, by8 [13, 10], PUnit.unit)).bind fun (v1 : (List V)) =>
  some (v1)
noncomputable def fn_text_Signed : Fn := ⟨16, [.v (.lst false 1)], .pure (.one (.t (.own 5))) 1, F_text_Signed⟩
theorem t_text_Signed : GoodAt Tryd.prog HH HSP 4 fn_text_Signed := goodAt_of (ho := HO) (l := [fn_text_join__text_Trim]) rfl (hl1 (t_text_join__text_Trim.up (by decide)) hl0) fun x => by kernel_rfl

noncomputable def F_affiantlaw15_alive : Ps [] → Option (Rc.I (.pure (.one (.t (.v .bool))) 0)) := fun (v0 : Unit) =>
  ((F_text_Canon [V.int .u8 97, V.int .u8 10, V.int .u8 98]).bind fun (v1 : (List V)) =>
    (unbytes (all v1)).bind fun v2 =>
      if (v2 == by8 [97, 13, 10, 98]) = true then
          (F_text_Lines nilV).bind fun (v3 : (List V)) =>
          if (len v3 == 1) = true then
              (F_text_Signed [V.int .u8 97, V.int .u8 32, V.int .u8 13, V.int .u8 10, V.int .u8 98, V.int .u8 9]).bind fun (v4 : (List V)) =>
              (unbytes (all v4)).bind fun v5 =>
                some (v5 == by8 [97, 13, 10, 98])
            else
              some (false)
        else
          some (false) : Option Bool).bind fun v6 =>
  some (v6)
noncomputable def fn_affiantlaw15_alive : Fn := ⟨6, [], .pure (.one (.t (.v .bool))) 0, F_affiantlaw15_alive⟩
theorem t_affiantlaw15_alive : GoodAt Tryd.prog HH HSP 5 fn_affiantlaw15_alive := goodAt_of (ho := HO) (l := [fn_text_Canon, fn_text_Lines, fn_text_Signed]) rfl (hl1 (t_text_Canon.up (by decide)) (hl1 (t_text_Lines.up (by decide)) (hl1 (t_text_Signed.up (by decide)) hl0))) fun x => by kernel_rfl

noncomputable def F_affiantlaw15_TextSame : Ps [.v (.lst false 1)] → Option (Rc.I (.pure (.one (.t (.v .bool))) 1)) := fun (v0 : (List V)) =>
  if decide (len v0 > 300) = true then
    (F_affiantlaw15_alive PUnit.unit).bind fun (v1 : Bool) =>
    some (v1)
  else
    (F_text_Lines v0).bind fun (v2 : (List V)) =>
    loopO (σ := ((List V) × (Int × Int))) (R := Bool) (fun (v3, v4, v5) =>
        if decide (v5 < len v3) = true then
          if 0 ≤ v5 then
            (v3[Int.toNat v5]?).bind fun v6 =>
            (V.int? .u8 v6).bind fun v7 =>
              (if (v7 == 10) = true then
                    some (.inl (w64 (v4 + 1)))
                  else
                    some (.inl (v4)) : Option (Int ⊕ (((List V) × (Int × Int)) ⊕ Bool))).bind fun v8 =>
                match v8 with
                  | .inl v9 =>
                    some (.inl ((v3, v9, w64 (v5 + 1))))
                  | .inr v10 =>
                    some (v10)
          else
            none
        else
          (loopO (σ := (Bool × ((List V) × Int))) (R := Bool) (fun (v11, v12, v13) =>
              if decide (v13 < len v12) = true then
                loopO (σ := (Bool × ((List V) × (Int × Int)))) (R := ((Bool × ((List V) × Int)) ⊕ Bool)) (fun (v14, v15, v16, v17) =>
                  if 0 ≤ v16 ∧ v16 < len v15 then
                    (v15[0 + Int.toNat v16]?).bind fun v18 =>
                    ((V.cells v18)[0]?).bind fun v19 =>
                      (V.lst? false 1 v19).bind fun v20 =>
                        if decide (v17 < len v20) = true then
                            if 0 ≤ v16 ∧ v16 < len v15 then
                              (v15[0 + Int.toNat v16]?).bind fun v21 =>
                              ((V.cells v21)[0]?).bind fun v22 =>
                                (V.lst? false 1 v22).bind fun v23 =>
                                  if 0 ≤ v17 then
                                      (v23[Int.toNat v17]?).bind fun v24 =>
                                      (V.int? .u8 v24).bind fun v25 =>
                                        if (v25 == 10) = true then
                                            some (.inr (Sum.inr false))
                                          else
                                            some (.inl ((v14, v15, v16, w64 (v17 + 1))))
                                    else
                                      none
                            else
                              none
                          else
                            some (.inr (Sum.inl (v14, v15, w64 (v16 + 1))))
                  else
                    none) ((v11, v12, v13, 0))
              else
                (((F_affiantlaw15_alive PUnit.unit).bind fun (v26 : Bool) =>
                    if v26 = true then
                        if (len v12 == v4) = true then
                          (F_text_Canon v3).bind fun (v27 : (List V)) =>
                          (F_text_Lines v27).bind fun (v28 : (List V)) =>
                            (F_affiantref15_Same (all v28, all v12)).bind fun (v29 : Bool) =>
                              some (v29)
                        else
                          some (false)
                      else
                        some (false) : Option Bool).bind fun v30 =>
                  some (v30) : Option Bool).bind fun v31 =>
                some (.inr (v31))) ((false, v2, 0)) : Option Bool).bind fun v32 =>
          some (.inr (v32))) ((v0, 1, 0))
noncomputable def fn_affiantlaw15_TextSame : Fn := ⟨4, [.v (.lst false 1)], .pure (.one (.t (.v .bool))) 1, F_affiantlaw15_TextSame⟩
theorem t_affiantlaw15_TextSame : GoodAt Tryd.prog HH HSP 6 fn_affiantlaw15_TextSame := goodAt_of (ho := HO) (l := [fn_affiantlaw15_alive, fn_text_Lines, fn_text_Canon, fn_affiantref15_Same]) rfl (hl1 (t_affiantlaw15_alive.up (by decide)) (hl1 (t_text_Lines.up (by decide)) (hl1 (t_text_Canon.up (by decide)) (hl1 (t_affiantref15_Same.up (by decide)) hl0)))) fun x => by kernel_rfl

noncomputable def F_affiantref15_IsWord : Ps [.v .str] → Option (Rc.I (.pure (.one (.t (.v .bool))) 1)) := fun (v0 : (List UInt8)) =>
  loopO (σ := ((List UInt8) × (Bool × Int))) (R := Bool) (fun (v1, v2, v3) =>
    if decide (v3 < len v1) = true then
      (if 0 ≤ v3 then
          (v1[Int.toNat v3]?).bind fun v4 =>
          if decide ((↑(UInt8.toNat v4) : Int) < 33) = false then
              if 0 ≤ v3 then
                (v1[Int.toNat v3]?).bind fun v5 =>
                some (decide ((↑(UInt8.toNat v5) : Int) > 126))
              else
                none
            else
              some (true)
        else
          none : Option Bool).bind fun v6 =>
      if v6 = true then
          some (.inr (false))
        else
          some (.inl ((v1, v2, w64 (v3 + 1))))
    else
      ((if decide (len v1 ≥ 1) = true then
            some (decide (len v1 ≤ 60))
          else
            some (false) : Option Bool).bind fun v7 =>
        some (v7) : Option Bool).bind fun v8 =>
      some (.inr (v8))) ((v0, false, 0))
noncomputable def fn_affiantref15_IsWord : Fn := ⟨19, [.v .str], .pure (.one (.t (.v .bool))) 1, F_affiantref15_IsWord⟩
theorem t_affiantref15_IsWord : GoodAt Tryd.prog HH HSP 1 fn_affiantref15_IsWord := goodAt_of (ho := HO) (l := []) rfl hl0 fun x => by kernel_rfl

noncomputable def F_affiantref15_joined : Ps [.v (.lst true 1), .v .str] → Option (Rc.I (.pure (.one (.t (.own 5))) 2)) := fun ((v0, v1) : ((List V) × (List UInt8))) =>
  loopO (σ := ((List V) × ((List UInt8) × ((List V) × Int)))) (R := (List V)) (fun (v2, v3, v4, v5) =>
    if decide (v5 < len v2) = true then
      (if decide (v5 > 0) = true then
          if List.length (all v4) + List.length (bytesV v3) ≤ 2147483648 then
            some (.inl ((v3, all v4 ++ bytesV v3)))
          else
            none
        else
          some (.inl ((v3, v4))) : Option (((List UInt8) × (List V)) ⊕ (((List V) × ((List UInt8) × ((List V) × Int))) ⊕ (List V)))).bind fun v6 =>
      match v6 with
        | .inl (v7, v8) =>
          if 0 ≤ v5 then
            (v2[Int.toNat v5]?).bind fun v9 =>
            (V.lst? false 1 v9).bind fun v10 =>
              if List.length (all v8) + List.length v10 ≤ 2147483648 then
                  some (.inl ((v2, v7, all v8 ++ v10, w64 (v5 + 1))))
                else
                  none
          else
            none
        | .inr v11 =>
          some (v11)
    else
      some (.inr (all v4))) ((v0, v1, nilV, 0))
noncomputable def fn_affiantref15_joined : Fn := ⟨25, [.v (.lst true 1), .v .str], .pure (.one (.t (.own 5))) 2, F_affiantref15_joined⟩
theorem t_affiantref15_joined : GoodAt Tryd.prog HH HSP 1 fn_affiantref15_joined := goodAt_of (ho := HO) (l := []) rfl hl0 fun x => by kernel_rfl

noncomputable def F_affiantref15_Trim : Ps [.v (.lst true 1)] → Option (Rc.I (.pure (.one (.t (.own 5))) 1)) := fun (v0 : (List V)) =>
  loopO (σ := ((List V) × Int)) (R := (List V)) (fun (v1, v2) =>
    (if decide (v2 > 0) = true then
        if 0 ≤ w64 (v2 - 1) then
          (v1[Int.toNat (w64 (v2 - 1))]?).bind fun v3 =>
          (V.int? .u8 v3).bind fun v4 =>
            if (v4 == 32) = false then
                if 0 ≤ w64 (v2 - 1) then
                  (v1[Int.toNat (w64 (v2 - 1))]?).bind fun v5 =>
                  (V.int? .u8 v5).bind fun v6 =>
                    some (v6 == 9)
                else
                  none
              else
                some (true)
        else
          none
      else
        some (false) : Option Bool).bind fun v7 =>
    if v7 = true then
        some (.inl ((v1, w64 (v2 - 1))))
      else
        (if 0 ≤ v2 then
            if 0 ≤ Int.toNat v2 ∧ Int.toNat v2 ≤ List.length v1 then
              if 0 + List.length (List.take (Int.toNat v2) (List.drop 0 v1)) ≤ 2147483648 then
                some (List.take (Int.toNat v2) (List.drop 0 v1))
              else
                none
            else
              none
          else
            none : Option (List V)).bind fun v8 =>
        some (.inr (v8))) ((v0, len v0))
noncomputable def fn_affiantref15_Trim : Fn := ⟨11, [.v (.lst true 1)], .pure (.one (.t (.own 5))) 1, F_affiantref15_Trim⟩
theorem t_affiantref15_Trim : GoodAt Tryd.prog HH HSP 1 fn_affiantref15_Trim := goodAt_of (ho := HO) (l := []) rfl hl0 fun x => by kernel_rfl

noncomputable def F_affiantref15_Lines : Ps [.v (.lst true 1)] → Option (Rc.I (.pure (.one (.t (.own 22))) 1)) := fun (v0 : (List V)) =>
  loopO (σ := ((List V) × ((List V) × ((List V) × Int)))) (R := (List V)) (fun (v1, v2, v3, v4) =>
    if decide (v4 < len v1) = true then
      if 0 ≤ v4 then
        (v1[Int.toNat v4]?).bind fun v5 =>
        (V.int? .u8 v5).bind fun v6 =>
          if (v6 != 10) = true then
              if 0 ≤ v4 then
                (v1[Int.toNat v4]?).bind fun v7 =>
                (V.int? .u8 v7).bind fun v8 =>
                  if List.length (all v3) + 1 ≤ 2147483648 then
                      some (.inl ((v1, v2, all v3 ++ [V.int .u8 v8], w64 (v4 + 1))))
                    else
                      none
              else
                none
            else
              (if decide (len v3 > 0) = true then
                  if 0 ≤ w64 (len v3 - 1) ∧ w64 (len v3 - 1) < len v3 then
                    (v3[0 + Int.toNat (w64 (len v3 - 1))]?).bind fun v9 =>
                    ((V.cells v9)[0]?).bind fun v10 =>
                      (V.int? .u8 v10).bind fun v11 =>
                        some (v11 == 13)
                  else
                    none
                else
                  some (false) : Option Bool).bind fun v12 =>
              (if v12 = true then
                    if 0 ≤ w64 (len v3 - 1) then
                      if 0 ≤ Int.toNat (w64 (len v3 - 1)) ∧ Int.toNat (w64 (len v3 - 1)) ≤ List.length v3 then
                        some (.inl ((List.take (Int.toNat (w64 (len v3 - 1))) (List.drop 0 v3), len v3)))
                      else
                        none
                    else
                      none
                  else
                    some (.inl ((v3, len v3))) : Option (((List V) × Int) ⊕ (((List V) × ((List V) × ((List V) × Int))) ⊕ (List V)))).bind fun v13 =>
                match v13 with
                  | .inl (v14, v15) =>
                    if List.length (all v2) + 1 ≤ 2147483648 then
                      some (.inl ((v1, all v2 ++ [V.sl false false 1 (all v14)], nilV, w64 (v4 + 1))))
                    else
                      none
                  | .inr v16 =>
                    some (v16)
      else
        none
    else
      (if List.length (all v2) + 1 ≤ 2147483648 then
          some (all v2 ++ [V.sl false false 1 (all v3)])
        else
          none : Option (List V)).bind fun v17 =>
      some (.inr (v17))) ((v0, nilV, nilV, 0))
noncomputable def fn_affiantref15_Lines : Fn := ⟨9, [.v (.lst true 1)], .pure (.one (.t (.own 22))) 1, F_affiantref15_Lines⟩
theorem t_affiantref15_Lines : GoodAt Tryd.prog HH HSP 1 fn_affiantref15_Lines := goodAt_of (ho := HO) (l := []) rfl hl0 fun x => by kernel_rfl

noncomputable def F_affiantref15_Signed : Ps [.v (.lst true 1)] → Option (Rc.I (.pure (.one (.t (.own 5))) 1)) := fun (v0 : (List V)) =>
  (F_affiantref15_Lines v0).bind fun (v1 : (List V)) =>
  loopO (σ := ((List V) × ((List V) × Int))) (R := (List V)) (fun (v2, v3, v4) =>
      if decide (v4 < len v2) = true then
        if 0 ≤ v4 ∧ v4 < len v2 then
          (v2[0 + Int.toNat v4]?).bind fun v5 =>
          ((V.cells v5)[0]?).bind fun v6 =>
            (V.lst? false 1 v6).bind fun v7 =>
              (F_affiantref15_Trim v7).bind fun (v8 : (List V)) =>
                if List.length (all v3) + 1 ≤ 2147483648 then
                    some (.inl ((v2, all v3 ++ [V.sl false false 1 v8], w64 (v4 + 1))))
                  else
                    none
        else
          none
      else
        ((F_affiantref15_joined (all v3, by8 [13, 10])).bind fun (v9 : (List V)) =>
          some (v9) : Option (List V)).bind fun v10 =>
        some (.inr (v10))) ((v1, nilV, 0))
noncomputable def fn_affiantref15_Signed : Fn := ⟨17, [.v (.lst true 1)], .pure (.one (.t (.own 5))) 1, F_affiantref15_Signed⟩
theorem t_affiantref15_Signed : GoodAt Tryd.prog HH HSP 2 fn_affiantref15_Signed := goodAt_of (ho := HO) (l := [fn_affiantref15_Lines, fn_affiantref15_Trim, fn_affiantref15_joined]) rfl (hl1 (t_affiantref15_Lines.up (by decide)) (hl1 (t_affiantref15_Trim.up (by decide)) (hl1 (t_affiantref15_joined.up (by decide)) hl0))) fun x => by kernel_rfl

noncomputable def F_affiantref15_Plain : Ps [.v (.lst true 1)] → Option (Rc.I (.pure (.one (.t (.own 5))) 1)) := fun (v0 : (List V)) =>
  (F_affiantref15_Lines v0).bind fun (v1 : (List V)) =>
  (F_affiantref15_joined (all v1, by8 [10])).bind fun (v2 : (List V)) =>
    some (v2)
noncomputable def fn_affiantref15_Plain : Fn := ⟨15, [.v (.lst true 1)], .pure (.one (.t (.own 5))) 1, F_affiantref15_Plain⟩
theorem t_affiantref15_Plain : GoodAt Tryd.prog HH HSP 2 fn_affiantref15_Plain := goodAt_of (ho := HO) (l := [fn_affiantref15_Lines, fn_affiantref15_joined]) rfl (hl1 (t_affiantref15_Lines.up (by decide)) (hl1 (t_affiantref15_joined.up (by decide)) hl0)) fun x => by kernel_rfl

noncomputable def F_text_Plain : Ps [.v (.lst false 1)] → Option (Rc.I (.pure (.one (.t (.own 5))) 1)) := fun (v0 : (List V)) =>
  (F_text_join__text_asIs (v0, by8 [10], PUnit.unit)).bind fun (v1 : (List V)) =>
  some (v1)
noncomputable def fn_text_Plain : Fn := ⟨14, [.v (.lst false 1)], .pure (.one (.t (.own 5))) 1, F_text_Plain⟩
theorem t_text_Plain : GoodAt Tryd.prog HH HSP 3 fn_text_Plain := goodAt_of (ho := HO) (l := [fn_text_join__text_asIs]) rfl (hl1 (t_text_join__text_asIs.up (by decide)) hl0) fun x => by kernel_rfl

noncomputable def F_affiantref15_Canon : Ps [.v (.lst true 1)] → Option (Rc.I (.pure (.one (.t (.own 5))) 1)) := fun (v0 : (List V)) =>
  (F_affiantref15_Lines v0).bind fun (v1 : (List V)) =>
  (F_affiantref15_joined (all v1, by8 [13, 10])).bind fun (v2 : (List V)) =>
    some (v2)
noncomputable def fn_affiantref15_Canon : Fn := ⟨13, [.v (.lst true 1)], .pure (.one (.t (.own 5))) 1, F_affiantref15_Canon⟩
theorem t_affiantref15_Canon : GoodAt Tryd.prog HH HSP 2 fn_affiantref15_Canon := goodAt_of (ho := HO) (l := [fn_affiantref15_Lines, fn_affiantref15_joined]) rfl (hl1 (t_affiantref15_Lines.up (by decide)) (hl1 (t_affiantref15_joined.up (by decide)) hl0)) fun x => by kernel_rfl

noncomputable def F_affiantlaw15_TextForms : Ps [.v (.lst true 1), .v .str] → Option (Rc.I (.pure (.one (.t (.v .bool))) 2)) := fun ((v0, v1) : ((List V) × (List UInt8))) =>
  (if decide (len v0 > 300) = false then
      some (decide (len v1 > 300))
    else
      some (true) : Option Bool).bind fun v2 =>
  if v2 = true then
      (F_affiantlaw15_alive PUnit.unit).bind fun (v3 : Bool) =>
      some (v3)
    else
      if 0 + List.length v0 ≤ 2147483648 then
        ((F_affiantlaw15_alive PUnit.unit).bind fun (v4 : Bool) =>
          if v4 = true then
              (F_text_Canon v0).bind fun (v5 : (List V)) =>
              (unbytes (all v5)).bind fun v6 =>
                (F_affiantref15_Canon v0).bind fun (v7 : (List V)) =>
                  (unbytes (all v7)).bind fun v8 =>
                    if (v6 == v8) = true then
                        (F_text_Plain v0).bind fun (v9 : (List V)) =>
                        (unbytes (all v9)).bind fun v10 =>
                          (F_affiantref15_Plain v0).bind fun (v11 : (List V)) =>
                            (unbytes (all v11)).bind fun v12 =>
                              if (v10 == v12) = true then
                                  (F_text_Signed v0).bind fun (v13 : (List V)) =>
                                  (unbytes (all v13)).bind fun v14 =>
                                    (F_affiantref15_Signed v0).bind fun (v15 : (List V)) =>
                                      (unbytes (all v15)).bind fun v16 =>
                                        if (v14 == v16) = true then
                                            (F_affiantref15_IsWord v1).bind fun (v17 : Bool) =>
                                            if (isWordB v1 == v17) = true then
                                                (unbytes v0).bind fun v18 =>
                                                (unbytes v0).bind fun v19 =>
                                                  some (v18 == v19)
                                              else
                                                some (false)
                                          else
                                            some (false)
                                else
                                  some (false)
                      else
                        some (false)
            else
              some (false) : Option Bool).bind fun v20 =>
        some (v20)
      else
        none
noncomputable def fn_affiantlaw15_TextForms : Fn := ⟨5, [.v (.lst true 1), .v .str], .pure (.one (.t (.v .bool))) 2, F_affiantlaw15_TextForms⟩
theorem t_affiantlaw15_TextForms : GoodAt Tryd.prog HH HSP 6 fn_affiantlaw15_TextForms := goodAt_of (ho := HO) (l := [fn_affiantlaw15_alive, fn_text_Canon, fn_affiantref15_Canon, fn_text_Plain, fn_affiantref15_Plain, fn_text_Signed, fn_affiantref15_Signed, fn_text_IsWord, fn_affiantref15_IsWord]) rfl (hl1 (t_affiantlaw15_alive.up (by decide)) (hl1 (t_text_Canon.up (by decide)) (hl1 (t_affiantref15_Canon.up (by decide)) (hl1 (t_text_Plain.up (by decide)) (hl1 (t_affiantref15_Plain.up (by decide)) (hl1 (t_text_Signed.up (by decide)) (hl1 (t_affiantref15_Signed.up (by decide)) (hl1 (t_text_IsWord.up (by decide)) (hl1 (t_affiantref15_IsWord.up (by decide)) hl0))))))))) fun x => by kernel_rfl


end Go.Proofs.YtffofdfikmpanaaDoor.A
