/- What the program's functions come to. Conditions: none. -/
import Derived.Test.YtkblkhfahemogaaLE
import Derived.Test.YtkblkhfahemogaaChecked
set_option linter.unusedVariables false
set_option linter.unusedSimpArgs false
set_option linter.constructorNameAsVariable false
set_option linter.unusedSectionVars false

namespace Go.Proofs.Ytkblkhfahemogaa.A
open Go Go.Proofs
set_option maxRecDepth 100000
noncomputable def HH : Hints := { ht := fun f => match Try.prog.funcs[f]? with | some fn => funcHTz (match f with | 21 => [4] | 11 => [2] | 12 => [2] | _ => []) fn | none => .z, mode := fun f k => match f, k with | _, _ => 0, same := fun f => f == 26, raw := fun t => [36].contains t }
noncomputable def HO : Ho := { bigT := fun t => [36].contains t }
noncomputable def F_strings_Builder_String : Ps [.ndO 36] → Option (Rc.I (.io (.one (.t (.v .str))) [.ndO 36])) := fun x =>
  (bSt? 5 x).bind fun z => match z with
  | (false, none) => some ((nilB, [T.p V.nilp, T.own (4294967295 : Nat) nilV]))
  | (false, some []) => none
  | (false, some (a :: r)) => if (0 : Int) < (↑(List.length (a :: r)) : Int) ∧ (↑(List.length (a :: r)) : Int) ≤ (9223372036854775807 : Int) ∧ Int.toNat (↑(List.length (a :: r)) : Int) ≤ List.length (a :: r) then
    (unbytes (List.take (Int.toNat (↑(List.length (a :: r)) : Int)) (a :: r))).bind fun (v0 : (List UInt8)) =>
    some ((v0, List.set [T.p V.nilp, T.own (5 : Nat) (a :: r)] ((0 : Nat) + nat_lit 1) (T.p (V.sl false false (nat_lit 1) (a :: r)))))
  else
    none
  | (true, none) => some ((nilB, [T.self, T.own (4294967295 : Nat) nilV]))
  | (true, some []) => none
  | (true, some (a :: r)) => if (0 : Int) < (↑(List.length (a :: r)) : Int) ∧ (↑(List.length (a :: r)) : Int) ≤ (9223372036854775807 : Int) ∧ Int.toNat (↑(List.length (a :: r)) : Int) ≤ List.length (a :: r) then
    (unbytes (List.take (Int.toNat (↑(List.length (a :: r)) : Int)) (a :: r))).bind fun (v0 : (List UInt8)) =>
    some ((v0, List.set [T.self, T.own (5 : Nat) (a :: r)] ((0 : Nat) + nat_lit 1) (T.p (V.sl false false (nat_lit 1) (a :: r)))))
  else
    none
noncomputable def fn_strings_Builder_String : Fn := ⟨18, [.ndO 36], .io (.one (.t (.v .str))) [.ndO 36], F_strings_Builder_String⟩
theorem t_strings_Builder_String : GoodAt Try.prog HH 1 fn_strings_Builder_String := goodAt_of' (ho := HO) (l := []) hl0 fun x y h => by obtain ⟨⟨b, o⟩, h1, h2⟩ := Option.bind_eq_some_iff.1 h; obtain rfl := bSt_eq h1; refine Eq.trans ?_ h2; clear h h1 h2; cases b <;> rcases o with _ | _ | ⟨a, r⟩ <;> kernel_rfl

noncomputable def F_strings_Builder_copyCheck : Ps [.ndO 36] → Option (Rc.I (.io (.tup []) [.ndO 36])) := fun x =>
  (bSt? 5 x).bind fun z => match z with
  | (false, none) => some ((PUnit.unit, List.set [T.p V.nilp, T.own (4294967295 : Nat) nilV] ((0 : Nat) + nat_lit 0) T.self))
  | (false, some []) => some ((PUnit.unit, List.set [T.p V.nilp, T.own (5 : Nat) nilV] ((0 : Nat) + nat_lit 0) T.self))
  | (false, some (a :: r)) => some ((PUnit.unit, List.set [T.p V.nilp, T.own (5 : Nat) (a :: r)] ((0 : Nat) + nat_lit 0) T.self))
  | (true, none) => some ((PUnit.unit, [T.self, T.own (4294967295 : Nat) nilV]))
  | (true, some []) => some ((PUnit.unit, [T.self, T.own (5 : Nat) nilV]))
  | (true, some (a :: r)) => some ((PUnit.unit, [T.self, T.own (5 : Nat) (a :: r)]))
noncomputable def fn_strings_Builder_copyCheck : Fn := ⟨24, [.ndO 36], .io (.tup []) [.ndO 36], F_strings_Builder_copyCheck⟩
theorem t_strings_Builder_copyCheck : GoodAt Try.prog HH 1 fn_strings_Builder_copyCheck := goodAt_of' (ho := HO) (l := []) hl0 fun x y h => by obtain ⟨⟨b, o⟩, h1, h2⟩ := Option.bind_eq_some_iff.1 h; obtain rfl := bSt_eq h1; refine Eq.trans ?_ h2; clear h h1 h2; cases b <;> rcases o with _ | _ | ⟨a, r⟩ <;> kernel_rfl

noncomputable def F_strings_Builder_WriteByte : Ps [.ndO 36, .v (.int .u8)] → Option (Rc.I (.io (.one (.t (.v .nili))) [.ndO 36, .t .dead])) := fun x =>
  (bSt? 5 x.1).bind fun z => match z, x.2 with
  | (false, none), y => some ((PUnit.unit, List.set (List.set (List.set [T.p V.nilp, T.own (4294967295 : Nat) nilV] ((0 : Nat) + nat_lit 0) T.self) ((0 : Nat) + nat_lit 1) T.dead) ((0 : Nat) + nat_lit 1) (T.own (5 : Nat) (List.take (List.length nilV) (List.drop (0 : Nat) nilV) ++ List.take (List.length (List.set (List.replicate (1 : Nat) (V.int Go.IntKind.u8 (0 : Int))) (0 : Nat) (V.int Go.IntKind.u8 y))) (List.drop (0 : Nat) (List.set (List.replicate (1 : Nat) (V.int Go.IntKind.u8 (0 : Int))) (0 : Nat) (V.int Go.IntKind.u8 y))))), PUnit.unit))
  | (false, some []), y => some ((PUnit.unit, List.set (List.set (List.set [T.p V.nilp, T.own (5 : Nat) nilV] ((0 : Nat) + nat_lit 0) T.self) ((0 : Nat) + nat_lit 1) T.dead) ((0 : Nat) + nat_lit 1) (T.own (5 : Nat) (List.take (List.length nilV) (List.drop (0 : Nat) nilV) ++ List.take (List.length (List.set (List.replicate (1 : Nat) (V.int Go.IntKind.u8 (0 : Int))) (0 : Nat) (V.int Go.IntKind.u8 y))) (List.drop (0 : Nat) (List.set (List.replicate (1 : Nat) (V.int Go.IntKind.u8 (0 : Int))) (0 : Nat) (V.int Go.IntKind.u8 y))))), PUnit.unit))
  | (false, some (a :: r)), y => if List.length (List.take (List.length (a :: r)) (List.drop (0 : Nat) (a :: r))) + List.length (List.take (List.length (List.set (List.replicate (1 : Nat) (V.int Go.IntKind.u8 (0 : Int))) (0 : Nat) (V.int Go.IntKind.u8 y))) (List.drop (0 : Nat) (List.set (List.replicate (1 : Nat) (V.int Go.IntKind.u8 (0 : Int))) (0 : Nat) (V.int Go.IntKind.u8 y)))) ≤ (2147483648 : Nat) then
    some ((PUnit.unit, List.set (List.set (List.set [T.p V.nilp, T.own (5 : Nat) (a :: r)] ((0 : Nat) + nat_lit 0) T.self) ((0 : Nat) + nat_lit 1) T.dead) ((0 : Nat) + nat_lit 1) (T.own (5 : Nat) (List.take (List.length (a :: r)) (List.drop (0 : Nat) (a :: r)) ++ List.take (List.length (List.set (List.replicate (1 : Nat) (V.int Go.IntKind.u8 (0 : Int))) (0 : Nat) (V.int Go.IntKind.u8 y))) (List.drop (0 : Nat) (List.set (List.replicate (1 : Nat) (V.int Go.IntKind.u8 (0 : Int))) (0 : Nat) (V.int Go.IntKind.u8 y))))), PUnit.unit))
  else
    none
  | (true, none), y => some ((PUnit.unit, List.set (List.set [T.self, T.own (4294967295 : Nat) nilV] ((0 : Nat) + nat_lit 1) T.dead) ((0 : Nat) + nat_lit 1) (T.own (5 : Nat) (List.take (List.length nilV) (List.drop (0 : Nat) nilV) ++ List.take (List.length (List.set (List.replicate (1 : Nat) (V.int Go.IntKind.u8 (0 : Int))) (0 : Nat) (V.int Go.IntKind.u8 y))) (List.drop (0 : Nat) (List.set (List.replicate (1 : Nat) (V.int Go.IntKind.u8 (0 : Int))) (0 : Nat) (V.int Go.IntKind.u8 y))))), PUnit.unit))
  | (true, some []), y => some ((PUnit.unit, List.set (List.set [T.self, T.own (5 : Nat) nilV] ((0 : Nat) + nat_lit 1) T.dead) ((0 : Nat) + nat_lit 1) (T.own (5 : Nat) (List.take (List.length nilV) (List.drop (0 : Nat) nilV) ++ List.take (List.length (List.set (List.replicate (1 : Nat) (V.int Go.IntKind.u8 (0 : Int))) (0 : Nat) (V.int Go.IntKind.u8 y))) (List.drop (0 : Nat) (List.set (List.replicate (1 : Nat) (V.int Go.IntKind.u8 (0 : Int))) (0 : Nat) (V.int Go.IntKind.u8 y))))), PUnit.unit))
  | (true, some (a :: r)), y => if List.length (List.take (List.length (a :: r)) (List.drop (0 : Nat) (a :: r))) + List.length (List.take (List.length (List.set (List.replicate (1 : Nat) (V.int Go.IntKind.u8 (0 : Int))) (0 : Nat) (V.int Go.IntKind.u8 y))) (List.drop (0 : Nat) (List.set (List.replicate (1 : Nat) (V.int Go.IntKind.u8 (0 : Int))) (0 : Nat) (V.int Go.IntKind.u8 y)))) ≤ (2147483648 : Nat) then
    some ((PUnit.unit, List.set (List.set [T.self, T.own (5 : Nat) (a :: r)] ((0 : Nat) + nat_lit 1) T.dead) ((0 : Nat) + nat_lit 1) (T.own (5 : Nat) (List.take (List.length (a :: r)) (List.drop (0 : Nat) (a :: r)) ++ List.take (List.length (List.set (List.replicate (1 : Nat) (V.int Go.IntKind.u8 (0 : Int))) (0 : Nat) (V.int Go.IntKind.u8 y))) (List.drop (0 : Nat) (List.set (List.replicate (1 : Nat) (V.int Go.IntKind.u8 (0 : Int))) (0 : Nat) (V.int Go.IntKind.u8 y))))), PUnit.unit))
  else
    none
noncomputable def fn_strings_Builder_WriteByte : Fn := ⟨22, [.ndO 36, .v (.int .u8)], .io (.one (.t (.v .nili))) [.ndO 36, .t .dead], F_strings_Builder_WriteByte⟩
theorem t_strings_Builder_WriteByte : GoodAt Try.prog HH 2 fn_strings_Builder_WriteByte := goodAt_of' (ho := HO) (l := [fn_strings_Builder_copyCheck]) (hl1 (t_strings_Builder_copyCheck.up (by decide)) hl0) fun x y h => by obtain ⟨x, x2⟩ := x; obtain ⟨⟨b, o⟩, h1, h2⟩ := Option.bind_eq_some_iff.1 h; obtain rfl := bSt_eq h1; refine Eq.trans ?_ h2; clear h h1 h2; cases b <;> rcases o with _ | _ | ⟨a, r⟩ <;> kernel_rfl

noncomputable def F_radix_group : Ps [.ndO 36, .v (.lst true 1)] → Option (Rc.I (.io (.tup []) [.ndO 36, .t .dead])) := fun ((v0, v1) : ((List T) × (List V))) =>
  loopO (σ := ((List V) × (Int × Int))) (R := (Unit × ((List T) × Unit))) (fun ((v2, v3, v4) : ((List V) × (Int × Int))) =>
    if decide (v4 < (3 : Int)) = true then
      (if decide (v4 < (↑(List.length v2) : Int)) = true then
          if (0 : Int) ≤ v4 then
            (v2[Int.toNat v4]?).bind fun (v5 : V) =>
            ((V.cells v5)[(0 : Nat)]?).bind fun (v6 : V) =>
              (V.int? Go.IntKind.u8 v6).bind fun (v7 : Int) =>
                some (.inl ((v2, wordOr Go.IntKind.i64 (wordShl Go.IntKind.i64 v3 (8 : Int)) (Go.IntKind.wrap Go.IntKind.i64 v7), v4)))
          else
            none
        else
          some (.inl ((v2, wordShl Go.IntKind.i64 v3 (8 : Int), v4))) : Option (((List V) × (Int × Int)) ⊕ (((List V) × (Int × Int)) ⊕ (Unit × ((List T) × Unit))))).bind fun (v8 : (((List V) × (Int × Int)) ⊕ (((List V) × (Int × Int)) ⊕ (Unit × ((List T) × Unit))))) =>
      match v8 with
        | .inl (v9, v10, v11) =>
          some (.inl ((v9, v10, Go.IntKind.wrap Go.IntKind.i64 (v4 + (1 : Int)))))
        | .inr v12 =>
          some (v12)
    else
      (loopO (σ := (Unit × ((List V) × (Int × (Int × (List T)))))) (R := (Unit × ((List T) × Unit))) (fun ((v13, v14, v15, v16, v17) : (Unit × ((List V) × (Int × (Int × (List T)))))) =>
          if decide (v16 < (4 : Int)) = true then
            if decide (v16 > (↑(List.length v14) : Int)) = true then
              (F_strings_Builder_WriteByte (v17, (61 : Int))).bind fun ((v18, v19, v20) : (Unit × ((List T) × Unit))) =>
              if decide (List.length v17 = List.length v19) = true then
                  some (.inl ((PUnit.unit, v14, v15, Go.IntKind.wrap Go.IntKind.i64 (v16 + (1 : Int)), v19)))
                else
                  none
            else
              if Go.IntKind.wrap Go.IntKind.i64 ((18 : Int) - Go.IntKind.wrap Go.IntKind.i64 ((6 : Int) * v16)) < (0 : Int) then
                none
              else
                if (0 : Int) ≤ wordAnd Go.IntKind.i64 (wordShr Go.IntKind.i64 v15 (Go.IntKind.wrap Go.IntKind.i64 ((18 : Int) - Go.IntKind.wrap Go.IntKind.i64 ((6 : Int) * v16)))) (63 : Int) then
                  ([(65 : UInt8), (66 : UInt8), (67 : UInt8), (68 : UInt8), (69 : UInt8), (70 : UInt8), (71 : UInt8), (72 : UInt8), (73 : UInt8), (74 : UInt8), (75 : UInt8), (76 : UInt8), (77 : UInt8), (78 : UInt8), (79 : UInt8), (80 : UInt8), (81 : UInt8), (82 : UInt8), (83 : UInt8), (84 : UInt8), (85 : UInt8), (86 : UInt8), (87 : UInt8), (88 : UInt8), (89 : UInt8), (90 : UInt8), (97 : UInt8), (98 : UInt8), (99 : UInt8), (100 : UInt8), (101 : UInt8), (102 : UInt8), (103 : UInt8), (104 : UInt8), (105 : UInt8), (106 : UInt8), (107 : UInt8), (108 : UInt8), (109 : UInt8), (110 : UInt8), (111 : UInt8), (112 : UInt8), (113 : UInt8), (114 : UInt8), (115 : UInt8), (116 : UInt8), (117 : UInt8), (118 : UInt8), (119 : UInt8), (120 : UInt8), (121 : UInt8), (122 : UInt8), (48 : UInt8), (49 : UInt8), (50 : UInt8), (51 : UInt8), (52 : UInt8), (53 : UInt8), (54 : UInt8), (55 : UInt8), (56 : UInt8), (57 : UInt8), (43 : UInt8), (47 : UInt8)][Int.toNat (wordAnd Go.IntKind.i64 (wordShr Go.IntKind.i64 v15 (Go.IntKind.wrap Go.IntKind.i64 ((18 : Int) - Go.IntKind.wrap Go.IntKind.i64 ((6 : Int) * v16)))) (63 : Int))]?).bind fun (v21 : UInt8) =>
                  (F_strings_Builder_WriteByte (v17, (↑(UInt8.toNat v21) : Int))).bind fun ((v22, v23, v24) : (Unit × ((List T) × Unit))) =>
                    if decide (List.length v17 = List.length v23) = true then
                        some (.inl ((PUnit.unit, v14, v15, Go.IntKind.wrap Go.IntKind.i64 (v16 + (1 : Int)), v23)))
                      else
                        none
                else
                  none
          else
            (if T.stab (T.opt (36 : Go.TypeId) v17) = true then
                some ((PUnit.unit, v17, PUnit.unit))
              else
                none : Option (Unit × ((List T) × Unit))).bind fun ((v25, v26, v27) : (Unit × ((List T) × Unit))) =>
            some (.inr ((v25, v26, v27)))) ((PUnit.unit, v2, v3, (0 : Int), v0)) : Option (Unit × ((List T) × Unit))).bind fun ((v28, v29, v30) : (Unit × ((List T) × Unit))) =>
      some (.inr ((v28, v29, v30)))) ((v1, (0 : Int), (0 : Int)))
noncomputable def fn_radix_group : Fn := ⟨17, [.ndO 36, .v (.lst true 1)], .io (.tup []) [.ndO 36, .t .dead], F_radix_group⟩
theorem t_radix_group : GoodAt Try.prog HH 3 fn_radix_group := goodAt_of (ho := HO) (l := [fn_strings_Builder_WriteByte]) (hl1 (t_strings_Builder_WriteByte.up (by decide)) hl0) fun x => by kernel_rfl

noncomputable def F_radix_Encode : Ps [.v (.lst true 1)] → Option (Rc.I (.pure (.one (.t (.v .str))) 1)) := fun (v0 : (List V)) =>
  loopO (σ := ((List V) × (List T))) (R := (List UInt8)) (fun ((v1, v2) : ((List V) × (List T))) =>
    if decide ((↑(List.length v1) : Int) > (0 : Int)) = true then
      if (0 : Int) ≤ List.foldl (fun a b => if b < a then b else a) (3 : Int) [(↑(List.length v1) : Int)] then
        if (0 : Nat) ≤ Int.toNat (List.foldl (fun a b => if b < a then b else a) (3 : Int) [(↑(List.length v1) : Int)]) ∧ Int.toNat (List.foldl (fun a b => if b < a then b else a) (3 : Int) [(↑(List.length v1) : Int)]) ≤ List.length v1 then
          (F_radix_group (v2, List.take (Int.toNat (List.foldl (fun a b => if b < a then b else a) (3 : Int) [(↑(List.length v1) : Int)]) - (0 : Nat)) (List.drop (0 : Nat) v1))).bind fun ((v3, v4, v5) : (Unit × ((List T) × Unit))) =>
          if decide (List.length v2 = List.length v4) = true then
              if (0 : Int) ≤ List.foldl (fun a b => if b < a then b else a) (3 : Int) [(↑(List.length v1) : Int)] then
                if Int.toNat (List.foldl (fun a b => if b < a then b else a) (3 : Int) [(↑(List.length v1) : Int)]) ≤ List.length v1 ∧ List.length v1 ≤ List.length v1 then
                  some (.inl ((List.take (List.length v1 - Int.toNat (List.foldl (fun a b => if b < a then b else a) (3 : Int) [(↑(List.length v1) : Int)])) (List.drop (Int.toNat (List.foldl (fun a b => if b < a then b else a) (3 : Int) [(↑(List.length v1) : Int)])) v1), v4)))
                else
                  none
              else
                none
            else
              none
        else
          none
      else
        none
    else
      ((F_strings_Builder_String v2).bind fun ((v6, v7) : ((List UInt8) × (List T))) =>
        if decide (List.length v2 = List.length v7) = true then
            some (v6)
          else
            none : Option (List UInt8)).bind fun (v8 : (List UInt8)) =>
      some (.inr (v8))) ((v0, [T.p V.nilp, T.own (nat_lit 4294967295) nilV]))
noncomputable def fn_radix_Encode : Fn := ⟨9, [.v (.lst true 1)], .pure (.one (.t (.v .str))) 1, F_radix_Encode⟩
theorem t_radix_Encode : GoodAt Try.prog HH 4 fn_radix_Encode := goodAt_of (ho := HO) (l := [fn_radix_group, fn_strings_Builder_String]) (hl1 (t_radix_group.up (by decide)) (hl1 (t_strings_Builder_String.up (by decide)) hl0)) fun x => by kernel_rfl

noncomputable def F_radix_Value : Ps [.v (.int .u8)] → Option (Rc.I (.pure (.one (.t (.v (.int .i64)))) 1)) := fun (v0 : Int) =>
  (if decide (v0 ≥ (65 : Int)) = true then
      some (decide (v0 ≤ (90 : Int)))
    else
      some (false) : Option Bool).bind fun (v1 : Bool) =>
  if v1 = true then
      some (Go.IntKind.wrap Go.IntKind.i64 (Go.IntKind.wrap Go.IntKind.u8 (v0 - (65 : Int))))
    else
      (if decide (v0 ≥ (97 : Int)) = true then
          some (decide (v0 ≤ (122 : Int)))
        else
          some (false) : Option Bool).bind fun (v2 : Bool) =>
      if v2 = true then
          some (Go.IntKind.wrap Go.IntKind.i64 (Go.IntKind.wrap Go.IntKind.i64 (Go.IntKind.wrap Go.IntKind.u8 (v0 - (97 : Int))) + (26 : Int)))
        else
          (if decide (v0 ≥ (48 : Int)) = true then
              some (decide (v0 ≤ (57 : Int)))
            else
              some (false) : Option Bool).bind fun (v3 : Bool) =>
          if v3 = true then
              some (Go.IntKind.wrap Go.IntKind.i64 (Go.IntKind.wrap Go.IntKind.i64 (Go.IntKind.wrap Go.IntKind.u8 (v0 - (48 : Int))) + (52 : Int)))
            else
              if (v0 == (43 : Int)) = true then
                some ((62 : Int))
              else
                if (v0 == (47 : Int)) = true then
                  some ((63 : Int))
                else
                  some ((-1 : Int))
noncomputable def fn_radix_Value : Fn := ⟨15, [.v (.int .u8)], .pure (.one (.t (.v (.int .i64)))) 1, F_radix_Value⟩
theorem t_radix_Value : GoodAt Try.prog HH 1 fn_radix_Value := goodAt_of (ho := HO) (l := []) hl0 fun x => by kernel_rfl

noncomputable def F_radix_ungroup : Ps [.v .str, .v (.int .i64)] → Option (Rc.I (.pure (.tup [.t (.v (.lst false 1)), .t (.v .bool)]) 2)) := fun ((v0, v1) : ((List UInt8) × Int)) =>
  loopO (σ := ((List UInt8) × ((List V) × (Bool × (Int × (Int × Int)))))) (R := ((List V) × Bool)) (fun ((v2, v3, v4, v5, v6, v7) : ((List UInt8) × ((List V) × (Bool × (Int × (Int × Int)))))) =>
    if decide (v7 < v6) = true then
      if (0 : Int) ≤ v7 then
        (v2[Int.toNat v7]?).bind fun (v8 : UInt8) =>
        (F_radix_Value (↑(UInt8.toNat v8) : Int)).bind fun (v9 : Int) =>
          if (v9 == (-1 : Int)) = true then
              some (.inr ((nilV, false)))
            else
              if Go.IntKind.wrap Go.IntKind.i64 ((18 : Int) - Go.IntKind.wrap Go.IntKind.i64 ((6 : Int) * v7)) < (0 : Int) then
                none
              else
                some (.inl ((v2, v3, v4, wordOr Go.IntKind.i64 v5 (wordShl Go.IntKind.i64 v9 (Go.IntKind.wrap Go.IntKind.i64 ((18 : Int) - Go.IntKind.wrap Go.IntKind.i64 ((6 : Int) * v7)))), v6, Go.IntKind.wrap Go.IntKind.i64 (v7 + (1 : Int)))))
      else
        none
    else
      (if Go.IntKind.wrap Go.IntKind.i64 ((8 : Int) * Go.IntKind.wrap Go.IntKind.i64 ((4 : Int) - v1)) < (0 : Int) then
          none
        else
          if (0 : Int) ≤ Go.IntKind.wrap Go.IntKind.i64 (v1 - (1 : Int)) then
            if (0 : Nat) ≤ Int.toNat (Go.IntKind.wrap Go.IntKind.i64 (v1 - (1 : Int))) ∧ Int.toNat (Go.IntKind.wrap Go.IntKind.i64 (v1 - (1 : Int))) ≤ List.length (List.set (List.set (List.set (List.replicate (3 : Nat) (V.int Go.IntKind.u8 (0 : Int))) (0 : Nat) (V.int Go.IntKind.u8 (Go.IntKind.wrap Go.IntKind.u8 (wordShr Go.IntKind.i64 v5 (16 : Int))))) (1 : Nat) (V.int Go.IntKind.u8 (Go.IntKind.wrap Go.IntKind.u8 (wordShr Go.IntKind.i64 v5 (8 : Int))))) (2 : Nat) (V.int Go.IntKind.u8 (Go.IntKind.wrap Go.IntKind.u8 v5))) then
              some ((List.take (Int.toNat (Go.IntKind.wrap Go.IntKind.i64 (v1 - (1 : Int))) - (0 : Nat)) (List.drop ((0 : Nat) + (0 : Nat)) (List.set (List.set (List.set (List.replicate (3 : Nat) (V.int Go.IntKind.u8 (0 : Int))) (0 : Nat) (V.int Go.IntKind.u8 (Go.IntKind.wrap Go.IntKind.u8 (wordShr Go.IntKind.i64 v5 (16 : Int))))) (1 : Nat) (V.int Go.IntKind.u8 (Go.IntKind.wrap Go.IntKind.u8 (wordShr Go.IntKind.i64 v5 (8 : Int))))) (2 : Nat) (V.int Go.IntKind.u8 (Go.IntKind.wrap Go.IntKind.u8 v5)))), wordAnd Go.IntKind.i64 v5 (Go.IntKind.wrap Go.IntKind.i64 (wordShl Go.IntKind.i64 (1 : Int) (Go.IntKind.wrap Go.IntKind.i64 ((8 : Int) * Go.IntKind.wrap Go.IntKind.i64 ((4 : Int) - v1))) - (1 : Int))) == (0 : Int)))
            else
              none
          else
            none : Option ((List V) × Bool)).bind fun ((v10, v11) : ((List V) × Bool)) =>
      some (.inr ((v10, v11)))) ((v0, nilV, false, (0 : Int), v1, (0 : Int)))
noncomputable def fn_radix_ungroup : Fn := ⟨21, [.v .str, .v (.int .i64)], .pure (.tup [.t (.v (.lst false 1)), .t (.v .bool)]) 2, F_radix_ungroup⟩
theorem t_radix_ungroup : GoodAt Try.prog HH 2 fn_radix_ungroup := goodAt_of (ho := HO) (l := [fn_radix_Value]) (hl1 (t_radix_Value.up (by decide)) hl0) fun x => by kernel_rfl

noncomputable def F_internal_stringslite_HasSuffix : Ps [.v .str, .v .str] → Option (Rc.I (.pure (.one (.t (.v .bool))) 2)) := fun ((v0, v1) : ((List UInt8) × (List UInt8))) =>
  (if decide ((↑(List.length v0) : Int) ≥ (↑(List.length v1) : Int)) = true then
      if (0 : Int) ≤ Go.IntKind.wrap Go.IntKind.i64 ((↑(List.length v0) : Int) - (↑(List.length v1) : Int)) then
        if Int.toNat (Go.IntKind.wrap Go.IntKind.i64 ((↑(List.length v0) : Int) - (↑(List.length v1) : Int))) ≤ List.length v0 ∧ List.length v0 ≤ List.length v0 then
          some (List.take (List.length v0 - Int.toNat (Go.IntKind.wrap Go.IntKind.i64 ((↑(List.length v0) : Int) - (↑(List.length v1) : Int)))) (List.drop (Int.toNat (Go.IntKind.wrap Go.IntKind.i64 ((↑(List.length v0) : Int) - (↑(List.length v1) : Int)))) v0) == v1)
        else
          none
      else
        none
    else
      some (false) : Option Bool).bind fun (v2 : Bool) =>
  some (v2)
noncomputable def fn_internal_stringslite_HasSuffix : Fn := ⟨25, [.v .str, .v .str], .pure (.one (.t (.v .bool))) 2, F_internal_stringslite_HasSuffix⟩
theorem t_internal_stringslite_HasSuffix : GoodAt Try.prog HH 1 fn_internal_stringslite_HasSuffix := goodAt_of (ho := HO) (l := []) hl0 fun x => by kernel_rfl

noncomputable def F_internal_stringslite_TrimSuffix : Ps [.v .str, .v .str] → Option (Rc.I (.pure (.one (.t (.v .str))) 2)) := fun ((v0, v1) : ((List UInt8) × (List UInt8))) =>
  (F_internal_stringslite_HasSuffix (v0, v1)).bind fun (v2 : Bool) =>
  if v2 = true then
      if (0 : Int) ≤ Go.IntKind.wrap Go.IntKind.i64 ((↑(List.length v0) : Int) - (↑(List.length v1) : Int)) then
        if (0 : Nat) ≤ Int.toNat (Go.IntKind.wrap Go.IntKind.i64 ((↑(List.length v0) : Int) - (↑(List.length v1) : Int))) ∧ Int.toNat (Go.IntKind.wrap Go.IntKind.i64 ((↑(List.length v0) : Int) - (↑(List.length v1) : Int))) ≤ List.length v0 then
          some (List.take (Int.toNat (Go.IntKind.wrap Go.IntKind.i64 ((↑(List.length v0) : Int) - (↑(List.length v1) : Int))) - (0 : Nat)) (List.drop (0 : Nat) v0))
        else
          none
      else
        none
    else
      some (v0)
noncomputable def fn_internal_stringslite_TrimSuffix : Fn := ⟨23, [.v .str, .v .str], .pure (.one (.t (.v .str))) 2, F_internal_stringslite_TrimSuffix⟩
theorem t_internal_stringslite_TrimSuffix : GoodAt Try.prog HH 2 fn_internal_stringslite_TrimSuffix := goodAt_of (ho := HO) (l := [fn_internal_stringslite_HasSuffix]) (hl1 (t_internal_stringslite_HasSuffix.up (by decide)) hl0) fun x => by kernel_rfl

noncomputable def F_strings_TrimSuffix : Ps [.v .str, .v .str] → Option (Rc.I (.pure (.one (.t (.v .str))) 2)) := fun ((v0, v1) : ((List UInt8) × (List UInt8))) =>
  (F_internal_stringslite_TrimSuffix (v0, v1)).bind fun (v2 : (List UInt8)) =>
  some (v2)
noncomputable def fn_strings_TrimSuffix : Fn := ⟨20, [.v .str, .v .str], .pure (.one (.t (.v .str))) 2, F_strings_TrimSuffix⟩
theorem t_strings_TrimSuffix : GoodAt Try.prog HH 3 fn_strings_TrimSuffix := goodAt_of (ho := HO) (l := [fn_internal_stringslite_TrimSuffix]) (hl1 (t_internal_stringslite_TrimSuffix.up (by decide)) hl0) fun x => by kernel_rfl

noncomputable def F_radix_Decode : Ps [.v .str] → Option (Rc.I (.pure (.tup [.t (.v (.lst false 1)), .t (.v (.int .i64))]) 1)) := fun (v0 : (List UInt8)) =>
  if (Int.tmod (↑(List.length v0) : Int) (4 : Int) != (0 : Int)) = true then
    some ((nilV, (3 : Int)))
  else
    loopO (σ := ((List UInt8) × ((List V) × (Int × (List V))))) (R := ((List V) × Int)) (fun ((v1, v2, v3, v4) : ((List UInt8) × ((List V) × (Int × (List V))))) =>
      if (!v1 == nilB) = true then
        (if ((↑(List.length v1) : Int) == (4 : Int)) = true then
            (F_strings_TrimSuffix (v1, [(61 : UInt8)])).bind fun (v5 : (List UInt8)) =>
            (F_strings_TrimSuffix (v5, [(61 : UInt8)])).bind fun (v6 : (List UInt8)) =>
              some (.inl ((v1, (↑(List.length v6) : Int))))
          else
            some (.inl ((v1, (4 : Int)))) : Option (((List UInt8) × Int) ⊕ (((List UInt8) × ((List V) × (Int × (List V)))) ⊕ ((List V) × Int)))).bind fun (v7 : (((List UInt8) × Int) ⊕ (((List UInt8) × ((List V) × (Int × (List V)))) ⊕ ((List V) × Int)))) =>
        match v7 with
          | .inl (v8, v9) =>
            (F_radix_ungroup (v8, v9)).bind fun ((v10, v11) : ((List V) × Bool)) =>
            if (!v11) = true then
                some (.inr ((nilV, (3 : Int))))
              else
                if List.length (List.take (List.length v4) (List.drop (0 : Nat) v4)) + List.length v10 ≤ (2147483648 : Nat) then
                  if Int.toNat (4 : Int) ≤ List.length v8 ∧ List.length v8 ≤ List.length v8 then
                    some (.inl ((List.take (List.length v8 - Int.toNat (4 : Int)) (List.drop (Int.toNat (4 : Int)) v8), v2, v3, List.take (List.length v4) (List.drop (0 : Nat) v4) ++ v10)))
                  else
                    none
                else
                  none
          | .inr v12 =>
            some (v12)
      else
        some (.inr ((List.take (List.length v4) (List.drop (0 : Nat) v4), (0 : Int))))) ((v0, nilV, (0 : Int), nilV))
noncomputable def fn_radix_Decode : Fn := ⟨11, [.v .str], .pure (.tup [.t (.v (.lst false 1)), .t (.v (.int .i64))]) 1, F_radix_Decode⟩
theorem t_radix_Decode : GoodAt Try.prog HH 4 fn_radix_Decode := goodAt_of (ho := HO) (l := [fn_strings_TrimSuffix, fn_radix_ungroup]) (hl1 (t_strings_TrimSuffix.up (by decide)) (hl1 (t_radix_ungroup.up (by decide)) hl0)) fun x => by kernel_rfl

noncomputable def F_affiantlaw02_alive : Ps [] → Option (Rc.I (.pure (.one (.t (.v .bool))) 0)) := fun (v0 : Unit) =>
  (F_radix_Decode [(65 : UInt8), (81 : UInt8), (73 : UInt8), (61 : UInt8)]).bind fun ((v1, v2) : ((List V) × Int)) =>
  (F_radix_Decode [(65 : UInt8), (81 : UInt8), (74 : UInt8), (61 : UInt8)]).bind fun ((v3, v4) : ((List V) × Int)) =>
    ((F_radix_Encode (List.take (List.length (List.set (List.set (List.replicate (2 : Nat) (V.int Go.IntKind.u8 (0 : Int))) (0 : Nat) (V.int Go.IntKind.u8 (1 : Int))) (1 : Nat) (V.int Go.IntKind.u8 (2 : Int)))) (List.drop (0 : Nat) (List.set (List.set (List.replicate (2 : Nat) (V.int Go.IntKind.u8 (0 : Int))) (0 : Nat) (V.int Go.IntKind.u8 (1 : Int))) (1 : Nat) (V.int Go.IntKind.u8 (2 : Int)))))).bind fun (v5 : (List UInt8)) =>
        if (v5 == [(65 : UInt8), (81 : UInt8), (73 : UInt8), (61 : UInt8)]) = true then
            if (v2 == (0 : Int)) = true then
              (unbytes v1).bind fun (v6 : (List UInt8)) =>
              if (v6 == [(1 : UInt8), (2 : UInt8)]) = true then
                  some (v4 == (3 : Int))
                else
                  some (false)
            else
              some (false)
          else
            some (false) : Option Bool).bind fun (v7 : Bool) =>
      some (v7)
noncomputable def fn_affiantlaw02_alive : Fn := ⟨8, [], .pure (.one (.t (.v .bool))) 0, F_affiantlaw02_alive⟩
theorem t_affiantlaw02_alive : GoodAt Try.prog HH 5 fn_affiantlaw02_alive := goodAt_of (ho := HO) (l := [fn_radix_Decode, fn_radix_Encode]) (hl1 (t_radix_Decode.up (by decide)) (hl1 (t_radix_Encode.up (by decide)) hl0)) fun x => by kernel_rfl

noncomputable def F_affiantref02_Value : Ps [.v (.int .u8)] → Option (Rc.I (.pure (.one (.t (.v (.int .i64)))) 1)) := fun (v0 : Int) =>
  loopO (σ := (Int × (Int × Int))) (R := Int) (fun ((v1, v2, v3) : (Int × (Int × Int))) =>
    if decide (v3 < (64 : Int)) = true then
      if (0 : Int) ≤ v3 then
        ([(65 : UInt8), (66 : UInt8), (67 : UInt8), (68 : UInt8), (69 : UInt8), (70 : UInt8), (71 : UInt8), (72 : UInt8), (73 : UInt8), (74 : UInt8), (75 : UInt8), (76 : UInt8), (77 : UInt8), (78 : UInt8), (79 : UInt8), (80 : UInt8), (81 : UInt8), (82 : UInt8), (83 : UInt8), (84 : UInt8), (85 : UInt8), (86 : UInt8), (87 : UInt8), (88 : UInt8), (89 : UInt8), (90 : UInt8), (97 : UInt8), (98 : UInt8), (99 : UInt8), (100 : UInt8), (101 : UInt8), (102 : UInt8), (103 : UInt8), (104 : UInt8), (105 : UInt8), (106 : UInt8), (107 : UInt8), (108 : UInt8), (109 : UInt8), (110 : UInt8), (111 : UInt8), (112 : UInt8), (113 : UInt8), (114 : UInt8), (115 : UInt8), (116 : UInt8), (117 : UInt8), (118 : UInt8), (119 : UInt8), (120 : UInt8), (121 : UInt8), (122 : UInt8), (48 : UInt8), (49 : UInt8), (50 : UInt8), (51 : UInt8), (52 : UInt8), (53 : UInt8), (54 : UInt8), (55 : UInt8), (56 : UInt8), (57 : UInt8), (43 : UInt8), (47 : UInt8)][Int.toNat v3]?).bind fun (v4 : UInt8) =>
        if ((↑(UInt8.toNat v4) : Int) == v1) = true then
            some (.inr (v3))
          else
            some (.inl ((v1, v2, Go.IntKind.wrap Go.IntKind.i64 (v3 + (1 : Int)))))
      else
        none
    else
      some (.inr ((-1 : Int)))) ((v0, (0 : Int), (0 : Int)))
noncomputable def fn_affiantref02_Value : Fn := ⟨16, [.v (.int .u8)], .pure (.one (.t (.v (.int .i64)))) 1, F_affiantref02_Value⟩
theorem t_affiantref02_Value : GoodAt Try.prog HH 1 fn_affiantref02_Value := goodAt_of (ho := HO) (l := []) hl0 fun x => by kernel_rfl

noncomputable def F_affiantref02_Letter : Ps [.v (.int .i64)] → Option (Rc.I (.pure (.tup [.t (.v (.int .u8)), .t (.v (.int .i64))]) 1)) := fun (v0 : Int) =>
  (if decide (v0 < (0 : Int)) = false then
      some (decide (v0 > (63 : Int)))
    else
      some (true) : Option Bool).bind fun (v1 : Bool) =>
  if v1 = true then
      some (((0 : Int), (1 : Int)))
    else
      if (0 : Int) ≤ v0 then
        ([(65 : UInt8), (66 : UInt8), (67 : UInt8), (68 : UInt8), (69 : UInt8), (70 : UInt8), (71 : UInt8), (72 : UInt8), (73 : UInt8), (74 : UInt8), (75 : UInt8), (76 : UInt8), (77 : UInt8), (78 : UInt8), (79 : UInt8), (80 : UInt8), (81 : UInt8), (82 : UInt8), (83 : UInt8), (84 : UInt8), (85 : UInt8), (86 : UInt8), (87 : UInt8), (88 : UInt8), (89 : UInt8), (90 : UInt8), (97 : UInt8), (98 : UInt8), (99 : UInt8), (100 : UInt8), (101 : UInt8), (102 : UInt8), (103 : UInt8), (104 : UInt8), (105 : UInt8), (106 : UInt8), (107 : UInt8), (108 : UInt8), (109 : UInt8), (110 : UInt8), (111 : UInt8), (112 : UInt8), (113 : UInt8), (114 : UInt8), (115 : UInt8), (116 : UInt8), (117 : UInt8), (118 : UInt8), (119 : UInt8), (120 : UInt8), (121 : UInt8), (122 : UInt8), (48 : UInt8), (49 : UInt8), (50 : UInt8), (51 : UInt8), (52 : UInt8), (53 : UInt8), (54 : UInt8), (55 : UInt8), (56 : UInt8), (57 : UInt8), (43 : UInt8), (47 : UInt8)][Int.toNat v0]?).bind fun (v2 : UInt8) =>
        some (((↑(UInt8.toNat v2) : Int), (0 : Int)))
      else
        none
noncomputable def fn_affiantref02_Letter : Fn := ⟨14, [.v (.int .i64)], .pure (.tup [.t (.v (.int .u8)), .t (.v (.int .i64))]) 1, F_affiantref02_Letter⟩
theorem t_affiantref02_Letter : GoodAt Try.prog HH 1 fn_affiantref02_Letter := goodAt_of (ho := HO) (l := []) hl0 fun x => by kernel_rfl

noncomputable def F_radix_Letter : Ps [.v (.int .i64)] → Option (Rc.I (.pure (.tup [.t (.v (.int .u8)), .t (.v (.int .i64))]) 1)) := fun (v0 : Int) =>
  (if decide (v0 < (0 : Int)) = false then
      some (decide (v0 ≥ (64 : Int)))
    else
      some (true) : Option Bool).bind fun (v1 : Bool) =>
  if v1 = true then
      some (((0 : Int), (1 : Int)))
    else
      if (0 : Int) ≤ v0 then
        ([(65 : UInt8), (66 : UInt8), (67 : UInt8), (68 : UInt8), (69 : UInt8), (70 : UInt8), (71 : UInt8), (72 : UInt8), (73 : UInt8), (74 : UInt8), (75 : UInt8), (76 : UInt8), (77 : UInt8), (78 : UInt8), (79 : UInt8), (80 : UInt8), (81 : UInt8), (82 : UInt8), (83 : UInt8), (84 : UInt8), (85 : UInt8), (86 : UInt8), (87 : UInt8), (88 : UInt8), (89 : UInt8), (90 : UInt8), (97 : UInt8), (98 : UInt8), (99 : UInt8), (100 : UInt8), (101 : UInt8), (102 : UInt8), (103 : UInt8), (104 : UInt8), (105 : UInt8), (106 : UInt8), (107 : UInt8), (108 : UInt8), (109 : UInt8), (110 : UInt8), (111 : UInt8), (112 : UInt8), (113 : UInt8), (114 : UInt8), (115 : UInt8), (116 : UInt8), (117 : UInt8), (118 : UInt8), (119 : UInt8), (120 : UInt8), (121 : UInt8), (122 : UInt8), (48 : UInt8), (49 : UInt8), (50 : UInt8), (51 : UInt8), (52 : UInt8), (53 : UInt8), (54 : UInt8), (55 : UInt8), (56 : UInt8), (57 : UInt8), (43 : UInt8), (47 : UInt8)][Int.toNat v0]?).bind fun (v2 : UInt8) =>
        some (((↑(UInt8.toNat v2) : Int), (0 : Int)))
      else
        none
noncomputable def fn_radix_Letter : Fn := ⟨13, [.v (.int .i64)], .pure (.tup [.t (.v (.int .u8)), .t (.v (.int .i64))]) 1, F_radix_Letter⟩
theorem t_radix_Letter : GoodAt Try.prog HH 1 fn_radix_Letter := goodAt_of (ho := HO) (l := []) hl0 fun x => by kernel_rfl

noncomputable def F_affiantlaw02_RadixLetter : Ps [.v (.int .i64), .v (.int .u8)] → Option (Rc.I (.pure (.one (.t (.v .bool))) 2)) := fun ((v0, v1) : (Int × Int)) =>
  (F_radix_Letter v0).bind fun ((v2, v3) : (Int × Int)) =>
  (F_affiantref02_Letter v0).bind fun ((v4, v5) : (Int × Int)) =>
    (F_radix_Value v1).bind fun (v6 : Int) =>
      (if (v2 != v4) = false then
            if (v3 != v5) = false then
              (F_affiantref02_Value v1).bind fun (v7 : Int) =>
              some (v6 != v7)
            else
              some (true)
          else
            some (true) : Option Bool).bind fun (v8 : Bool) =>
        if v8 = true then
            some (false)
          else
            (if (v3 == (0 : Int)) = true then
                (F_radix_Value v2).bind fun (v9 : Int) =>
                some (v9 != v0)
              else
                some (false) : Option Bool).bind fun (v10 : Bool) =>
            if v10 = true then
                some (false)
              else
                (F_affiantlaw02_alive PUnit.unit).bind fun (v11 : Bool) =>
                some (v11)
noncomputable def fn_affiantlaw02_RadixLetter : Fn := ⟨7, [.v (.int .i64), .v (.int .u8)], .pure (.one (.t (.v .bool))) 2, F_affiantlaw02_RadixLetter⟩
theorem t_affiantlaw02_RadixLetter : GoodAt Try.prog HH 6 fn_affiantlaw02_RadixLetter := goodAt_of (ho := HO) (l := [fn_radix_Letter, fn_affiantref02_Letter, fn_radix_Value, fn_affiantref02_Value, fn_affiantlaw02_alive]) (hl1 (t_radix_Letter.up (by decide)) (hl1 (t_affiantref02_Letter.up (by decide)) (hl1 (t_radix_Value.up (by decide)) (hl1 (t_affiantref02_Value.up (by decide)) (hl1 (t_affiantlaw02_alive.up (by decide)) hl0))))) fun x => by kernel_rfl

noncomputable def F_affiantlaw02_RadixOnly : Ps [.v .str] → Option (Rc.I (.pure (.one (.t (.v .bool))) 1)) := fun (v0 : (List UInt8)) =>
  if decide ((↑(List.length v0) : Int) > (300 : Int)) = true then
    (F_affiantlaw02_alive PUnit.unit).bind fun (v1 : Bool) =>
    some (v1)
  else
    (F_radix_Decode v0).bind fun ((v2, v3) : ((List V) × Int)) =>
    if (v3 != (0 : Int)) = true then
        ((F_affiantlaw02_alive PUnit.unit).bind fun (v4 : Bool) =>
          if v4 = true then
              if (v3 == (3 : Int)) = true then
                some ((↑(List.length v2) : Int) == (0 : Int))
              else
                some (false)
            else
              some (false) : Option Bool).bind fun (v5 : Bool) =>
        some (v5)
      else
        ((F_affiantlaw02_alive PUnit.unit).bind fun (v6 : Bool) =>
          if v6 = true then
              (F_radix_Encode v2).bind fun (v7 : (List UInt8)) =>
              some (v7 == v0)
            else
              some (false) : Option Bool).bind fun (v8 : Bool) =>
        some (v8)
noncomputable def fn_affiantlaw02_RadixOnly : Fn := ⟨6, [.v .str], .pure (.one (.t (.v .bool))) 1, F_affiantlaw02_RadixOnly⟩
theorem t_affiantlaw02_RadixOnly : GoodAt Try.prog HH 6 fn_affiantlaw02_RadixOnly := goodAt_of (ho := HO) (l := [fn_affiantlaw02_alive, fn_radix_Decode, fn_radix_Encode]) (hl1 (t_affiantlaw02_alive.up (by decide)) (hl1 (t_radix_Decode.up (by decide)) (hl1 (t_radix_Encode.up (by decide)) hl0))) fun x => by kernel_rfl

noncomputable def F_affiantlaw02_RadixBack : Ps [.v (.lst true 1)] → Option (Rc.I (.pure (.one (.t (.v .bool))) 1)) := fun (v0 : (List V)) =>
  if decide ((↑(List.length v0) : Int) > (300 : Int)) = true then
    (F_affiantlaw02_alive PUnit.unit).bind fun (v1 : Bool) =>
    some (v1)
  else
    (F_radix_Encode v0).bind fun (v2 : (List UInt8)) =>
    (F_radix_Decode v2).bind fun ((v3, v4) : ((List V) × Int)) =>
      ((F_affiantlaw02_alive PUnit.unit).bind fun (v5 : Bool) =>
          if v5 = true then
              if (v4 == (0 : Int)) = true then
                (unbytes v3).bind fun (v6 : (List UInt8)) =>
                (unbytes v0).bind fun (v7 : (List UInt8)) =>
                  if (v6 == v7) = true then
                      some ((↑(List.length v2) : Int) == Go.IntKind.wrap Go.IntKind.i64 (Go.IntKind.wrap Go.IntKind.i64 (Int.tdiv (Go.IntKind.wrap Go.IntKind.i64 ((↑(List.length v0) : Int) + (2 : Int))) (3 : Int)) * (4 : Int)))
                    else
                      some (false)
              else
                some (false)
            else
              some (false) : Option Bool).bind fun (v8 : Bool) =>
        some (v8)
noncomputable def fn_affiantlaw02_RadixBack : Fn := ⟨5, [.v (.lst true 1)], .pure (.one (.t (.v .bool))) 1, F_affiantlaw02_RadixBack⟩
theorem t_affiantlaw02_RadixBack : GoodAt Try.prog HH 6 fn_affiantlaw02_RadixBack := goodAt_of (ho := HO) (l := [fn_affiantlaw02_alive, fn_radix_Encode, fn_radix_Decode]) (hl1 (t_affiantlaw02_alive.up (by decide)) (hl1 (t_radix_Encode.up (by decide)) (hl1 (t_radix_Decode.up (by decide)) hl0))) fun x => by kernel_rfl

noncomputable def F_affiantref02_bit : Ps [.v (.lst true 1), .v (.int .i64)] → Option (Rc.I (.pure (.one (.t (.v (.int .i64)))) 2)) := fun ((v0, v1) : ((List V) × Int)) =>
  if decide (Go.IntKind.wrap Go.IntKind.i64 (Int.tdiv v1 (8 : Int)) ≥ (↑(List.length v0) : Int)) = true then
    some ((0 : Int))
  else
    if (0 : Int) ≤ Go.IntKind.wrap Go.IntKind.i64 (Int.tdiv v1 (8 : Int)) then
      (v0[Int.toNat (Go.IntKind.wrap Go.IntKind.i64 (Int.tdiv v1 (8 : Int)))]?).bind fun (v2 : V) =>
      ((V.cells v2)[(0 : Nat)]?).bind fun (v3 : V) =>
        (V.int? Go.IntKind.u8 v3).bind fun (v4 : Int) =>
          if Go.IntKind.wrap Go.IntKind.u64 (Go.IntKind.wrap Go.IntKind.i64 ((7 : Int) - Int.tmod v1 (8 : Int))) < (0 : Int) then
              none
            else
              if wordShl Go.IntKind.i64 (1 : Int) (Go.IntKind.wrap Go.IntKind.u64 (Go.IntKind.wrap Go.IntKind.i64 ((7 : Int) - Int.tmod v1 (8 : Int)))) = (0 : Int) then
                none
              else
                some (Int.tmod (Go.IntKind.wrap Go.IntKind.i64 (Int.tdiv (Go.IntKind.wrap Go.IntKind.i64 v4) (wordShl Go.IntKind.i64 (1 : Int) (Go.IntKind.wrap Go.IntKind.u64 (Go.IntKind.wrap Go.IntKind.i64 ((7 : Int) - Int.tmod v1 (8 : Int))))))) (2 : Int))
    else
      none
noncomputable def fn_affiantref02_bit : Fn := ⟨19, [.v (.lst true 1), .v (.int .i64)], .pure (.one (.t (.v (.int .i64)))) 2, F_affiantref02_bit⟩
theorem t_affiantref02_bit : GoodAt Try.prog HH 1 fn_affiantref02_bit := goodAt_of (ho := HO) (l := []) hl0 fun x => by kernel_rfl

noncomputable def F_affiantref02_Encode : Ps [.v (.lst true 1)] → Option (Rc.I (.pure (.one (.t (.v .str))) 1)) := fun (v0 : (List V)) =>
  loopO (σ := ((List V) × ((List UInt8) × Int))) (R := (List UInt8)) (fun ((v1, v2, v3) : ((List V) × ((List UInt8) × Int))) =>
    if decide (v3 < Go.IntKind.wrap Go.IntKind.i64 ((↑(List.length v1) : Int) * (8 : Int))) = true then
      loopO (σ := ((List V) × (Int × (Int × Int)))) (R := (((List V) × ((List UInt8) × Int)) ⊕ (List UInt8))) (fun ((v4, v5, v6, v7) : ((List V) × (Int × (Int × Int)))) =>
        if decide (v7 < (6 : Int)) = true then
          (F_affiantref02_bit (v4, Go.IntKind.wrap Go.IntKind.i64 (v5 + v7))).bind fun (v8 : Int) =>
          some (.inl ((v4, v5, Go.IntKind.wrap Go.IntKind.i64 (Go.IntKind.wrap Go.IntKind.i64 (v6 * (2 : Int)) + v8), Go.IntKind.wrap Go.IntKind.i64 (v7 + (1 : Int)))))
        else
          (if (0 : Int) ≤ v6 then
              if (0 : Int) ≤ Go.IntKind.wrap Go.IntKind.i64 (v6 + (1 : Int)) then
                if Int.toNat v6 ≤ Int.toNat (Go.IntKind.wrap Go.IntKind.i64 (v6 + (1 : Int))) ∧ Int.toNat (Go.IntKind.wrap Go.IntKind.i64 (v6 + (1 : Int))) ≤ List.length [(65 : UInt8), (66 : UInt8), (67 : UInt8), (68 : UInt8), (69 : UInt8), (70 : UInt8), (71 : UInt8), (72 : UInt8), (73 : UInt8), (74 : UInt8), (75 : UInt8), (76 : UInt8), (77 : UInt8), (78 : UInt8), (79 : UInt8), (80 : UInt8), (81 : UInt8), (82 : UInt8), (83 : UInt8), (84 : UInt8), (85 : UInt8), (86 : UInt8), (87 : UInt8), (88 : UInt8), (89 : UInt8), (90 : UInt8), (97 : UInt8), (98 : UInt8), (99 : UInt8), (100 : UInt8), (101 : UInt8), (102 : UInt8), (103 : UInt8), (104 : UInt8), (105 : UInt8), (106 : UInt8), (107 : UInt8), (108 : UInt8), (109 : UInt8), (110 : UInt8), (111 : UInt8), (112 : UInt8), (113 : UInt8), (114 : UInt8), (115 : UInt8), (116 : UInt8), (117 : UInt8), (118 : UInt8), (119 : UInt8), (120 : UInt8), (121 : UInt8), (122 : UInt8), (48 : UInt8), (49 : UInt8), (50 : UInt8), (51 : UInt8), (52 : UInt8), (53 : UInt8), (54 : UInt8), (55 : UInt8), (56 : UInt8), (57 : UInt8), (43 : UInt8), (47 : UInt8)] then
                  if List.length v2 + List.length (List.take (Int.toNat (Go.IntKind.wrap Go.IntKind.i64 (v6 + (1 : Int))) - Int.toNat v6) (List.drop (Int.toNat v6) [(65 : UInt8), (66 : UInt8), (67 : UInt8), (68 : UInt8), (69 : UInt8), (70 : UInt8), (71 : UInt8), (72 : UInt8), (73 : UInt8), (74 : UInt8), (75 : UInt8), (76 : UInt8), (77 : UInt8), (78 : UInt8), (79 : UInt8), (80 : UInt8), (81 : UInt8), (82 : UInt8), (83 : UInt8), (84 : UInt8), (85 : UInt8), (86 : UInt8), (87 : UInt8), (88 : UInt8), (89 : UInt8), (90 : UInt8), (97 : UInt8), (98 : UInt8), (99 : UInt8), (100 : UInt8), (101 : UInt8), (102 : UInt8), (103 : UInt8), (104 : UInt8), (105 : UInt8), (106 : UInt8), (107 : UInt8), (108 : UInt8), (109 : UInt8), (110 : UInt8), (111 : UInt8), (112 : UInt8), (113 : UInt8), (114 : UInt8), (115 : UInt8), (116 : UInt8), (117 : UInt8), (118 : UInt8), (119 : UInt8), (120 : UInt8), (121 : UInt8), (122 : UInt8), (48 : UInt8), (49 : UInt8), (50 : UInt8), (51 : UInt8), (52 : UInt8), (53 : UInt8), (54 : UInt8), (55 : UInt8), (56 : UInt8), (57 : UInt8), (43 : UInt8), (47 : UInt8)])) ≤ (2147483648 : Nat) then
                    some (.inl ((v4, v2 ++ List.take (Int.toNat (Go.IntKind.wrap Go.IntKind.i64 (v6 + (1 : Int))) - Int.toNat v6) (List.drop (Int.toNat v6) [(65 : UInt8), (66 : UInt8), (67 : UInt8), (68 : UInt8), (69 : UInt8), (70 : UInt8), (71 : UInt8), (72 : UInt8), (73 : UInt8), (74 : UInt8), (75 : UInt8), (76 : UInt8), (77 : UInt8), (78 : UInt8), (79 : UInt8), (80 : UInt8), (81 : UInt8), (82 : UInt8), (83 : UInt8), (84 : UInt8), (85 : UInt8), (86 : UInt8), (87 : UInt8), (88 : UInt8), (89 : UInt8), (90 : UInt8), (97 : UInt8), (98 : UInt8), (99 : UInt8), (100 : UInt8), (101 : UInt8), (102 : UInt8), (103 : UInt8), (104 : UInt8), (105 : UInt8), (106 : UInt8), (107 : UInt8), (108 : UInt8), (109 : UInt8), (110 : UInt8), (111 : UInt8), (112 : UInt8), (113 : UInt8), (114 : UInt8), (115 : UInt8), (116 : UInt8), (117 : UInt8), (118 : UInt8), (119 : UInt8), (120 : UInt8), (121 : UInt8), (122 : UInt8), (48 : UInt8), (49 : UInt8), (50 : UInt8), (51 : UInt8), (52 : UInt8), (53 : UInt8), (54 : UInt8), (55 : UInt8), (56 : UInt8), (57 : UInt8), (43 : UInt8), (47 : UInt8)]), Go.IntKind.wrap Go.IntKind.i64 (v5 + (6 : Int)))))
                  else
                    none
                else
                  none
              else
                none
            else
              none : Option (((List V) × ((List UInt8) × Int)) ⊕ (List UInt8))).bind fun (v9 : (((List V) × ((List UInt8) × Int)) ⊕ (List UInt8))) =>
          some (.inr (v9))) ((v1, v3, (0 : Int), (0 : Int)))
    else
      (loopO (σ := (List UInt8)) (R := (List UInt8)) (fun (v10 : (List UInt8)) =>
          if (Int.tmod (↑(List.length v10) : Int) (4 : Int) != (0 : Int)) = true then
            if List.length v10 + List.length [(61 : UInt8)] ≤ (2147483648 : Nat) then
              some (.inl (v10 ++ [(61 : UInt8)]))
            else
              none
          else
            some (.inr (v10))) (v2) : Option (List UInt8)).bind fun (v11 : (List UInt8)) =>
      some (.inr (v11))) ((v0, nilB, (0 : Int)))
noncomputable def fn_affiantref02_Encode : Fn := ⟨10, [.v (.lst true 1)], .pure (.one (.t (.v .str))) 1, F_affiantref02_Encode⟩
theorem t_affiantref02_Encode : GoodAt Try.prog HH 2 fn_affiantref02_Encode := goodAt_of (ho := HO) (l := [fn_affiantref02_bit]) (hl1 (t_affiantref02_bit.up (by decide)) hl0) fun x => by kernel_rfl

noncomputable def F_affiantref02_Decode : Ps [.v .str] → Option (Rc.I (.pure (.tup [.t (.v (.lst false 1)), .t (.v (.int .i64))]) 1)) := fun (v0 : (List UInt8)) =>
  loopO (σ := ((List UInt8) × ((List V) × (Int × (Int × (Int × ((List V) × Int))))))) (R := ((List V) × Int)) (fun ((v1, v2, v3, v4, v5, v6, v7) : ((List UInt8) × ((List V) × (Int × (Int × (Int × ((List V) × Int))))))) =>
    if decide (v7 < (↑(List.length v1) : Int)) = true then
      if (0 : Int) ≤ v7 then
        (v1[Int.toNat v7]?).bind fun (v8 : UInt8) =>
        (F_affiantref02_Value (↑(UInt8.toNat v8) : Int)).bind fun (v9 : Int) =>
          (if decide (v9 < (0 : Int)) = true then
                if (0 : Int) ≤ v7 then
                  (v1[Int.toNat v7]?).bind fun (v10 : UInt8) =>
                  if ((↑(UInt8.toNat v10) : Int) != (61 : Int)) = true then
                      some (.inr (Sum.inr (nilV, (3 : Int))))
                    else
                      some (.inl ((v1, v2, v3, v7, (0 : Int))))
                else
                  none
              else
                some (.inl ((v1, v2, v3, v7, v9))) : Option (((List UInt8) × ((List V) × (Int × (Int × Int)))) ⊕ (((List UInt8) × ((List V) × (Int × (Int × (Int × ((List V) × Int)))))) ⊕ ((List V) × Int)))).bind fun (v11 : (((List UInt8) × ((List V) × (Int × (Int × Int)))) ⊕ (((List UInt8) × ((List V) × (Int × (Int × (Int × ((List V) × Int)))))) ⊕ ((List V) × Int)))) =>
            match v11 with
              | .inl (v12, v13, v14, v15, v16) =>
                (if decide (Go.IntKind.wrap Go.IntKind.i64 (v5 + (6 : Int)) ≥ (8 : Int)) = true then
                    if Go.IntKind.wrap Go.IntKind.u64 (Go.IntKind.wrap Go.IntKind.i64 (Go.IntKind.wrap Go.IntKind.i64 (v5 + (6 : Int)) - (8 : Int))) < (0 : Int) then
                      none
                    else
                      if List.length (List.take (List.length v6) (List.drop (0 : Nat) v6)) + List.length (List.take (List.length (List.set (List.replicate (1 : Nat) (V.int Go.IntKind.u8 (0 : Int))) (0 : Nat) (V.int Go.IntKind.u8 (Go.IntKind.wrap Go.IntKind.u8 (wordShr Go.IntKind.i64 (Go.IntKind.wrap Go.IntKind.i64 (Go.IntKind.wrap Go.IntKind.i64 (v4 * (64 : Int)) + v16)) (Go.IntKind.wrap Go.IntKind.u64 (Go.IntKind.wrap Go.IntKind.i64 (Go.IntKind.wrap Go.IntKind.i64 (v5 + (6 : Int)) - (8 : Int))))))))) (List.drop (0 : Nat) (List.set (List.replicate (1 : Nat) (V.int Go.IntKind.u8 (0 : Int))) (0 : Nat) (V.int Go.IntKind.u8 (Go.IntKind.wrap Go.IntKind.u8 (wordShr Go.IntKind.i64 (Go.IntKind.wrap Go.IntKind.i64 (Go.IntKind.wrap Go.IntKind.i64 (v4 * (64 : Int)) + v16)) (Go.IntKind.wrap Go.IntKind.u64 (Go.IntKind.wrap Go.IntKind.i64 (Go.IntKind.wrap Go.IntKind.i64 (v5 + (6 : Int)) - (8 : Int)))))))))) ≤ (2147483648 : Nat) then
                        if Go.IntKind.wrap Go.IntKind.u64 (Go.IntKind.wrap Go.IntKind.i64 (Go.IntKind.wrap Go.IntKind.i64 (v5 + (6 : Int)) - (8 : Int))) < (0 : Int) then
                          none
                        else
                          if wordShl Go.IntKind.i64 (1 : Int) (Go.IntKind.wrap Go.IntKind.u64 (Go.IntKind.wrap Go.IntKind.i64 (Go.IntKind.wrap Go.IntKind.i64 (v5 + (6 : Int)) - (8 : Int)))) = (0 : Int) then
                            none
                          else
                            some (.inl ((Int.tmod (Go.IntKind.wrap Go.IntKind.i64 (Go.IntKind.wrap Go.IntKind.i64 (v4 * (64 : Int)) + v16)) (wordShl Go.IntKind.i64 (1 : Int) (Go.IntKind.wrap Go.IntKind.u64 (Go.IntKind.wrap Go.IntKind.i64 (Go.IntKind.wrap Go.IntKind.i64 (v5 + (6 : Int)) - (8 : Int))))), Go.IntKind.wrap Go.IntKind.i64 (Go.IntKind.wrap Go.IntKind.i64 (v5 + (6 : Int)) - (8 : Int)), List.take (List.length v6) (List.drop (0 : Nat) v6) ++ List.take (List.length (List.set (List.replicate (1 : Nat) (V.int Go.IntKind.u8 (0 : Int))) (0 : Nat) (V.int Go.IntKind.u8 (Go.IntKind.wrap Go.IntKind.u8 (wordShr Go.IntKind.i64 (Go.IntKind.wrap Go.IntKind.i64 (Go.IntKind.wrap Go.IntKind.i64 (v4 * (64 : Int)) + v16)) (Go.IntKind.wrap Go.IntKind.u64 (Go.IntKind.wrap Go.IntKind.i64 (Go.IntKind.wrap Go.IntKind.i64 (v5 + (6 : Int)) - (8 : Int))))))))) (List.drop (0 : Nat) (List.set (List.replicate (1 : Nat) (V.int Go.IntKind.u8 (0 : Int))) (0 : Nat) (V.int Go.IntKind.u8 (Go.IntKind.wrap Go.IntKind.u8 (wordShr Go.IntKind.i64 (Go.IntKind.wrap Go.IntKind.i64 (Go.IntKind.wrap Go.IntKind.i64 (v4 * (64 : Int)) + v16)) (Go.IntKind.wrap Go.IntKind.u64 (Go.IntKind.wrap Go.IntKind.i64 (Go.IntKind.wrap Go.IntKind.i64 (v5 + (6 : Int)) - (8 : Int))))))))))))
                      else
                        none
                  else
                    some (.inl ((Go.IntKind.wrap Go.IntKind.i64 (Go.IntKind.wrap Go.IntKind.i64 (v4 * (64 : Int)) + v16), Go.IntKind.wrap Go.IntKind.i64 (v5 + (6 : Int)), v6))) : Option ((Int × (Int × (List V))) ⊕ (((List UInt8) × ((List V) × (Int × (Int × (Int × ((List V) × Int)))))) ⊕ ((List V) × Int)))).bind fun (v17 : ((Int × (Int × (List V))) ⊕ (((List UInt8) × ((List V) × (Int × (Int × (Int × ((List V) × Int)))))) ⊕ ((List V) × Int)))) =>
                match v17 with
                  | .inl (v18, v19, v20) =>
                    some (.inl ((v12, v13, v14, v18, v19, v20, Go.IntKind.wrap Go.IntKind.i64 (v15 + (1 : Int)))))
                  | .inr v21 =>
                    some (v21)
              | .inr v22 =>
                some (v22)
      else
        none
    else
      (loopO (σ := ((List UInt8) × ((List V) × (Int × ((List V) × Int))))) (R := ((List V) × Int)) (fun ((v23, v24, v25, v26, v27) : ((List UInt8) × ((List V) × (Int × ((List V) × Int))))) =>
          if decide (v27 < (3 : Int)) = true then
            (if decide ((↑(List.length v26) : Int) ≥ v27) = true then
                if (0 : Int) ≤ Go.IntKind.wrap Go.IntKind.i64 ((↑(List.length v26) : Int) - v27) then
                  if (0 : Nat) ≤ Int.toNat (Go.IntKind.wrap Go.IntKind.i64 ((↑(List.length v26) : Int) - v27)) ∧ Int.toNat (Go.IntKind.wrap Go.IntKind.i64 ((↑(List.length v26) : Int) - v27)) ≤ List.length v26 then
                    (F_affiantref02_Encode (List.take (Int.toNat (Go.IntKind.wrap Go.IntKind.i64 ((↑(List.length v26) : Int) - v27)) - (0 : Nat)) (List.drop ((0 : Nat) + (0 : Nat)) v26))).bind fun (v28 : (List UInt8)) =>
                    some (v28 == v23)
                  else
                    none
                else
                  none
              else
                some (false) : Option Bool).bind fun (v29 : Bool) =>
            if v29 = true then
                if (0 : Int) ≤ Go.IntKind.wrap Go.IntKind.i64 ((↑(List.length v26) : Int) - v27) then
                  if (0 : Nat) ≤ Int.toNat (Go.IntKind.wrap Go.IntKind.i64 ((↑(List.length v26) : Int) - v27)) ∧ Int.toNat (Go.IntKind.wrap Go.IntKind.i64 ((↑(List.length v26) : Int) - v27)) ≤ List.length v26 then
                    some (.inr ((List.take (Int.toNat (Go.IntKind.wrap Go.IntKind.i64 ((↑(List.length v26) : Int) - v27)) - (0 : Nat)) (List.drop ((0 : Nat) + (0 : Nat)) v26), (0 : Int))))
                  else
                    none
                else
                  none
              else
                some (.inl ((v23, v24, v25, v26, Go.IntKind.wrap Go.IntKind.i64 (v27 + (1 : Int)))))
          else
            some (.inr ((nilV, (3 : Int))))) ((v1, v2, v3, v6, (0 : Int))) : Option ((List V) × Int)).bind fun ((v30, v31) : ((List V) × Int)) =>
      some (.inr ((v30, v31)))) ((v0, nilV, (0 : Int), (0 : Int), (0 : Int), nilV, (0 : Int)))
noncomputable def fn_affiantref02_Decode : Fn := ⟨12, [.v .str], .pure (.tup [.t (.v (.lst false 1)), .t (.v (.int .i64))]) 1, F_affiantref02_Decode⟩
theorem t_affiantref02_Decode : GoodAt Try.prog HH 3 fn_affiantref02_Decode := goodAt_of (ho := HO) (l := [fn_affiantref02_Value, fn_affiantref02_Encode]) (hl1 (t_affiantref02_Value.up (by decide)) (hl1 (t_affiantref02_Encode.up (by decide)) hl0)) fun x => by kernel_rfl

noncomputable def F_affiantlaw02_RadixDecode : Ps [.v .str] → Option (Rc.I (.pure (.one (.t (.v .bool))) 1)) := fun (v0 : (List UInt8)) =>
  if decide ((↑(List.length v0) : Int) > (300 : Int)) = true then
    (F_affiantlaw02_alive PUnit.unit).bind fun (v1 : Bool) =>
    some (v1)
  else
    (F_radix_Decode v0).bind fun ((v2, v3) : ((List V) × Int)) =>
    (F_affiantref02_Decode v0).bind fun ((v4, v5) : ((List V) × Int)) =>
      ((F_affiantlaw02_alive PUnit.unit).bind fun (v6 : Bool) =>
          if v6 = true then
              (unbytes v2).bind fun (v7 : (List UInt8)) =>
              (unbytes v4).bind fun (v8 : (List UInt8)) =>
                if (v7 == v8) = true then
                    some (v3 == v5)
                  else
                    some (false)
            else
              some (false) : Option Bool).bind fun (v9 : Bool) =>
        some (v9)
noncomputable def fn_affiantlaw02_RadixDecode : Fn := ⟨4, [.v .str], .pure (.one (.t (.v .bool))) 1, F_affiantlaw02_RadixDecode⟩
theorem t_affiantlaw02_RadixDecode : GoodAt Try.prog HH 6 fn_affiantlaw02_RadixDecode := goodAt_of (ho := HO) (l := [fn_affiantlaw02_alive, fn_radix_Decode, fn_affiantref02_Decode]) (hl1 (t_affiantlaw02_alive.up (by decide)) (hl1 (t_radix_Decode.up (by decide)) (hl1 (t_affiantref02_Decode.up (by decide)) hl0))) fun x => by kernel_rfl

noncomputable def F_affiantlaw02_RadixEncode : Ps [.v (.lst true 1)] → Option (Rc.I (.pure (.one (.t (.v .bool))) 1)) := fun (v0 : (List V)) =>
  if decide ((↑(List.length v0) : Int) > (300 : Int)) = true then
    (F_affiantlaw02_alive PUnit.unit).bind fun (v1 : Bool) =>
    some (v1)
  else
    if List.length nilV + List.length v0 ≤ (2147483648 : Nat) then
      ((F_affiantlaw02_alive PUnit.unit).bind fun (v2 : Bool) =>
        if v2 = true then
            (F_radix_Encode (List.take (List.length (nilV ++ v0)) (List.drop (0 : Nat) (nilV ++ v0)))).bind fun (v3 : (List UInt8)) =>
            (F_affiantref02_Encode v0).bind fun (v4 : (List UInt8)) =>
              if (v3 == v4) = true then
                  (unbytes (List.take (List.length (nilV ++ v0)) (List.drop (0 : Nat) (nilV ++ v0)))).bind fun (v5 : (List UInt8)) =>
                  (unbytes v0).bind fun (v6 : (List UInt8)) =>
                    some (v5 == v6)
                else
                  some (false)
          else
            some (false) : Option Bool).bind fun (v7 : Bool) =>
      some (v7)
    else
      none
noncomputable def fn_affiantlaw02_RadixEncode : Fn := ⟨3, [.v (.lst true 1)], .pure (.one (.t (.v .bool))) 1, F_affiantlaw02_RadixEncode⟩
theorem t_affiantlaw02_RadixEncode : GoodAt Try.prog HH 6 fn_affiantlaw02_RadixEncode := goodAt_of (ho := HO) (l := [fn_affiantlaw02_alive, fn_radix_Encode, fn_affiantref02_Encode]) (hl1 (t_affiantlaw02_alive.up (by decide)) (hl1 (t_radix_Encode.up (by decide)) (hl1 (t_affiantref02_Encode.up (by decide)) hl0))) fun x => by kernel_rfl

end Go.Proofs.Ytkblkhfahemogaa.A
