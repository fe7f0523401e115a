/- The law's row, closed. Conditions: none. -/
import Derived.Test.YtffofdfikmpanaaLD
import Derived.Test.YtffofdfikmpanaaChecked
import Derived.RangeFuncKeeps
import Derived.TacticsInMore
import Derived.OwnWalkIn
import Derived.LoopNIn
import Derived.LoopIn
import Derived.Test.YtffofdfikmpanaaLE
import Derived.Shelf.Bytes.SlCut
import Derived.Lib.SlBytesConst
import Derived.Test.YtffofdfikmpanaaPR
import Derived.SizedLaws
set_option linter.unusedVariables false
set_option linter.unusedSimpArgs false
set_option linter.constructorNameAsVariable false
set_option linter.unusedSectionVars false

namespace Go.Proofs.Ytffofdfikmpanaa.A
open Go Go.Proofs Go.RowKit
set_option linter.unusedVariables false
set_option linter.unusedSimpArgs false
attribute [local go_sem] Oper.semAt_some

/-- Its items, as the model's values. -/
def downC (xs : Nat → Int) (n : Nat) : List (List Value) := (List.range n).reverse.map fun (i : Nat) => [Value.int .i64 (i : Int), Value.int .u32 (xs i)]
theorem downC_get (xs : Nat → Int) (n k : Nat) (h : k < n) : (downC xs n)[k]? = some [Value.int .i64 ((n - 1 - k : Nat) : Int), Value.int .u32 (xs (n - 1 - k))] := by
  unfold downC
  rw [List.getElem?_map, List.getElem?_reverse (by simpa using h)]
  simp [show n - 1 - k < n by omega]
theorem downC_length (xs : Nat → Int) (n : Nat) : (downC xs n).length = n := by simp [downC]

set_option maxRecDepth 100000 in
set_option maxHeartbeats 1000000 in
theorem down_iter {w : World} {Z : Nat → Prop} {b off : Nat} {ad : Option Addr} {n cap : Nat} {xs : Nat → Int} (hn : n ≤ 4611686018427387904) (hb : Z b) (hc : w.cell? ⟨b, off, none⟩ = some (.slice ad n cap))
    (he : ∀ i, i < n → ∃ a2 o2, ad = some ⟨a2, o2, none⟩ ∧ Z a2 ∧ w.cell? ⟨a2, o2 + i, none⟩ = some (.int .u32 (xs i))) :
    Iterates Try.prog 146 [.pointer (some ⟨b, off, none⟩)] (downC xs n) w Z := by
  intro l J Jx W hW hJ hJx hK hY h0
  have cellK : ∀ {k : Nat} {W1 : World} {b o : Nat}, J k W1 → Z b → W1.cell? ⟨b, o, none⟩ = w.cell? ⟨b, o, none⟩ := fun {k W1 b o} hj hz => World.cell?_of_block (w := w) ((hK k W1 hj).2 b hz)
  refine callsIn_of_wp Try.func146 rfl trivial ?_ rfl
  simp only [Try.ntmps146, List.size_toArray, List.length_cons, List.length_nil, Nat.reduceAdd, Nat.reduceSub, Array.replicate_succ, Array.replicate_zero, List.push_toArray, List.append_toArray, List.nil_append, List.cons_append]
  have hc0 := (cellK (b := b) (o := off) h0 hb).trans hc
  gi_wp2
  gi_loopw [3] (fun p wr => ∃ k : Nat, k ≤ n ∧ p = .int .i64 ((n : Int) - 1 - k) ∧ J k wr) (fun p (wr : World) => match p with | .int _ i => (i + 1).toNat | _ => 0)
  case atStart =>
    exact ⟨0, Nat.zero_le _, by simp, h0⟩
  case round =>
    obtain ⟨k, hk, rfl, hj⟩ := hrel
    have hc1 := (cellK (b := b) (o := off) hj hb).trans hc
    by_cases hkn : k < n
    · obtain ⟨a2, o2, rfl, hz2, hc2⟩ := he (n - 1 - k) (by omega)
      have hc3 := (cellK (b := a2) (o := o2 + (n - 1 - k)) hj hz2).trans hc2
      have hix : ((n : Int) - 1 - (k : Int)) = ((n - 1 - k : Nat) : Int) := by omega
      rw [hix]
      obtain ⟨fn, tmps, assign, body, hy, hR⟩ := hY k _ wr (downC_get xs n k hkn) hj
      gi_wp2
      refine ⟨rfl, hR.mono ?_⟩
      rintro e W3 (⟨rfl, hJ3⟩ | ⟨rfl, hJx3⟩)
      · gi_wp2
        go_roundw
        case rel => exact ⟨k + 1, by omega, by congr 1; omega, hJ3⟩
        case measure => simp
      · gi_wp2
        refine bodyPost_ret (results_none rfl _ _ _) rfl ?_
        exact ⟨⟨_, rfl⟩, .inr hJx3⟩
    · have : k = n := by omega
      subst this
      have hix : ((k : Int) - 1 - (k : Int)) = -1 := by omega
      rw [hix]
      gi_wp2
      go_end0
      exact ⟨⟨_, rfl⟩, .inl (by rw [downC_length]; exact hj)⟩

def intOf : V → Int
  | .int _ n => n
  | _ => 0

theorem down_sound {sn sn' ex : Bool} {sz : Nat} {es : List V} {items : List (List V)} (hi : downItems .u32 es = some items) {w : World} {Z : Nat → Prop} {vs : List Value} (hl : vs.length = 1)
    (hrep : ∀ (i : Nat) (v : V) (c : Value), [V.ref sn [.sl sn' ex sz es]][i]? = some v → vs[i]? = some c → PRep w Z Z v c) :
    ∃ encs : List (List Value), encs.length = items.length ∧ (∀ (i : Nat) (x : List V) (e : List Value), items[i]? = some x → encs[i]? = some e → e.length = x.length ∧ ∀ (k : Nat) (v : V) (c : Value), x[k]? = some v → e[k]? = some c → PRep w (fun _ => False) Z v c) ∧
      Iterates Try.prog 146 vs encs w Z := by
  obtain ⟨c, rfl⟩ := List.length_eq_one_iff.1 hl
  have hr := hrep 0 _ c rfl rfl
  unfold downItems at hi
  split at hi
  · rename_i hh
    rw [Bool.and_eq_true, decide_eq_true_eq] at hh
    obtain ⟨hlen, hall⟩ := hh
    cases hi
    have hint : ∀ (i : Nat) (v : V), es[i]? = some v → v = V.int .u32 (intOf v) := fun i v hv => by
      have := List.all_eq_true.1 hall v (List.mem_of_getElem? hv)
      cases v <;> simp [V.isInt] at this
      subst this; rfl
    refine ⟨downC (fun i => intOf ((es[i]?).getD .nilp)) es.length, by simp [downC], ?_, ?_⟩
    · intro i x e hx he
      have hi : i < es.length := by have := (List.getElem?_eq_some_iff.1 he).1; rwa [downC_length] at this
      rw [downC_get _ _ _ hi] at he
      cases he
      rw [List.getElem?_map, List.getElem?_reverse (by simpa using hi)] at hx
      simp [show es.length - 1 - i < es.length by omega] at hx
      subst hx
      refine ⟨rfl, fun k v c hk hc => ?_⟩
      match k with
      | 0 => cases hk; cases hc; exact .int _ _
      | 1 =>
        cases hk; cases hc
        have hg : es[es.length - 1 - i]? = some es[es.length - 1 - i] := List.getElem?_eq_getElem (by omega)
        have := hint _ _ hg
        simp only [hg, Option.getD_some]
        rw [this]
        exact .int _ _
      | k + 2 => simp at hk
    · cases hr with
      | ref _ _ b off hz h1 hd h =>
        have hzb : Z b := by cases sn <;> exact hz
        obtain ⟨c0, hc0⟩ := hd 0 _ rfl
        have hs := h 0 _ c0 rfl hc0
        rw [Nat.add_zero] at hc0
        have hs' : PRep w Z Z (.sl sn' ex sz es) c0 := by cases sn <;> exact hs
        generalize hes : es = es' at hs'
        cases hs' with
        | sl0 _ _ _ a cap he => exact down_iter (by simp) hzb hc0 fun i hi => absurd hi (by simp)
        | sl _ _ _ _ b2 off2 cap he hc hz2 hcl h1' hd2 h2 =>
          subst hes
          refine down_iter hlen hzb hc0 fun i hi => ?_
          have hg : es[i]? = some es[i] := List.getElem?_eq_getElem hi
          have hv := hint _ _ hg
          have hcells : (es[i]).cells = [es[i]] := by rw [hv]; rfl
          have hsz : sz = 1 := by have := hcl i _ hg; rw [hcells] at this; simpa using this.symm
          subst hsz
          obtain ⟨c1, hc1⟩ := hd2 i 0 _ (es[i]) hg (by rw [hcells]; rfl)
          have hp := h2 i 0 _ (es[i]) c1 hg (by rw [hcells]; rfl) hc1
          refine ⟨b2, off2, rfl, by cases sn' <;> exact hz2, ?_⟩
          rw [Nat.mul_one, Nat.add_zero] at hc1
          rw [hc1, hg, Option.getD_some]
          rw [hv] at hp
          cases hp
          rfl
  · cases hi
end Go.Proofs.Ytffofdfikmpanaa.A

namespace Go.Proofs.Ytffofdfikmpanaa.A
open Go Go.Proofs Go.RowKit
set_option linter.unusedVariables false
set_option linter.unusedSimpArgs false
attribute [local go_sem] Oper.semAt_some

set_option maxRecDepth 100000 in
set_option maxHeartbeats 1000000 in
theorem clone_nil (w : World) (cap : Nat) : CallsIn Fence.wide 0 Try.prog 51 #[.slice none 0 cap] w fun e w' => e = .returned (.slice none 0 0) ∧ w' = w := by
  refine callsIn_of_wp Try.func51 rfl trivial ?_ rfl
  simp only [Try.ntmps51, List.size_toArray, List.length_cons, List.length_nil, Nat.reduceAdd, Nat.reduceSub, Array.replicate_succ, Array.replicate_zero, List.push_toArray, List.append_toArray, List.nil_append, List.cons_append]
  have hb : (binOp BinOp.eql 30 (.slice none 0 cap) (.slice none 0 0)).run Try.prog w = .ok (.bool true) w := by rfl
  gi_wp2
  go_ret
  exact ⟨rfl, rfl⟩

set_option maxRecDepth 100000 in
set_option maxHeartbeats 1000000 in
theorem clone_empty (w : World) (ad : Addr) (cap : Nat) : CallsIn Fence.wide 0 Try.prog 51 #[.slice (some ad) 0 cap] w fun e w' => ∃ ad', e = .returned (.slice ad' 0 0) ∧ Turns w w' (fun _ => False) := by
  refine callsIn_of_wp Try.func51 rfl trivial ?_ rfl
  simp only [Try.ntmps51, List.size_toArray, List.length_cons, List.length_nil, Nat.reduceAdd, Nat.reduceSub, Array.replicate_succ, Array.replicate_zero, List.push_toArray, List.append_toArray, List.nil_append, List.cons_append]
  have hb : (binOp BinOp.eql 30 (.slice (some ad) 0 cap) (.slice none 0 0)).run Try.prog w = .ok (.bool false) w := by rfl
  gi_wp2
  go_ret
  exact ⟨_, rfl, ⟨rfl, rfl, rfl, by simp, fun b hb _ => RowKit.Below.heap_alloc _ _ _ hb⟩⟩

/-- No call is told. -/
def K0n : Oracle := fun _ _ => none
theorem K0n_sound : KSound Try.prog K0n := fun f args r outs n h => by simp [K0n] at h

theorem clone_rel {w w' : World} {X : Nat → Prop} {g : Value} {F : Nat → Nat → Prop} {sl : List S} {cv : List Value} (R : Rel Try.prog w X sl cv F) (ht : Turns w w' (fun _ => False)) (ad : Option Addr) (hc : Try.prog.cellsOf 5 ≠ 0) :
    Rel Try.prog w' X [.t (.own 5 []), .t .dead] [.slice ad 0 0, g] (fun _ _ => False) ∧ To w F w' (fun _ _ => False) :=
  ⟨⟨rfl, fun _ _ h => h.elim, fun _ _ _ h => h.elim, fun _ _ h => h.elim, fun b hb => Nat.lt_of_lt_of_le (R.xlt b hb) ht.size, fun i s c hs hc' => by
    match i with
    | 0 => cases hs; cases hc'; exact .own0 none 5 ad _ (fun _ h => h) fun h => absurd h hc
    | 1 => cases hs; cases hc'; exact .dead none _ _ fun _ h => h
    | i + 2 => simp at hs⟩, ⟨fun i b h => h.elim, ht.mono fun _ h => h.elim⟩⟩

/-- What is told of bytes.Clone. -/
def cloneTold : List Arg → Option (T × List T) := fun args => match args with
  | [.v (.sl true false 1 es)] => if es.length ≤ 2147483648 then some (.own 5 es, [.dead]) else none
  | _ => none

noncomputable def HC : Hints := { ht := fun f => match Try.prog.funcs[f]? with | some fn => funcHTz [] fn | none => .z, give := fun f d => f == 51 && d == 2 }

theorem clone_run (a : V) (r : List V) (h : (a :: r).length ≤ 2147483648) : runF Try.prog K0n HC 51 [.v (.sl true false 1 (a :: r))] = some (.own 5 (a :: r), [.dead]) := by
  have e : evF Try.prog (spOf []) HC {} 51 [.v (.sl true false 1 (a :: r))] (T × List T) (fun t o => some (t, o)) = if 0 + (a :: r).length ≤ 2147483648 then some (.own 5 (a :: r), [.dead]) else none := by kernel_rfl
  rw [if_pos (by omega)] at e
  obtain ⟨t, o, h1, h2⟩ := evF_ok (K := K0n) (spOk (by simp)) e
  cases h2
  exact h1

theorem HC_same : HSound Try.prog HC := fun f h => by cases h
theorem HC_iter : ISound Try.prog HC := noIter fun f caps => rfl
theorem HC_iterO : IOSound Try.prog HC := noIterO fun f x => rfl

theorem clone_sound (hm : Try.prog.follows .mixedOrders = true) {args : List Arg} {r : T} {outs : List T} {n : Nat} (h : cloneTold args = some (r, outs)) (hsl : slotsOf Try.prog 51 = some n) (hle : args.length ≤ n) :
    r.stab = true ∧ (∀ x ∈ outs, x = .dead ∨ x.stab = true) ∧
    ∀ (w : World) (X : Nat → Prop) (vals gs : List Value) (F : Nat → Nat → Prop), vals.length = args.length → gs.length = args.length →
      Rel Try.prog w X (frame n args) (vals ++ List.replicate (n - args.length) undef ++ gs) F →
      Calls Try.prog 51 vals.toArray w fun e w' => ∃ c F', e = .returned c ∧ Rel Try.prog w' X (.t r :: outs.map .t) (c :: gs) F' ∧ To w F w' F' := by
  unfold cloneTold at h
  split at h
  · rename_i es
    split at h
    · rename_i hlen
      cases h
      cases es with
      | cons a r => exact runF_sound hm K0n_sound HC_same HC_iter HC_iterO (clone_run a r hlen) hsl hle
      | nil =>
        refine ⟨rfl, by simp, fun w X vals gs F hvl hgl R => ?_⟩
        obtain ⟨c0, rfl⟩ := List.length_eq_one_iff.1 hvl
        obtain ⟨g, rfl⟩ := List.length_eq_one_iff.1 hgl
        have h0 : TRep Try.prog w _ _ none (.p (.sl true false 1 [])) c0 (F 0) := R.slot 0 (.t (.p (.sl true false 1 []))) c0 rfl rfl
        have hs : ∃ ad cap, c0 = .slice ad 0 cap := by
          cases h0 with
          | p me v c F hp hF =>
            cases hp with
            | sl0 _ _ _ a cap he => exact ⟨a, cap, rfl⟩
            | sl _ _ _ _ b off cap => exact ⟨_, cap, rfl⟩
        obtain ⟨ad, cap, rfl⟩ := hs
        cases ad with
        | none =>
          refine ((callsIn_wide (n := 0)).1 (clone_nil w cap)).mono fun e w' he => ?_
          obtain ⟨rfl, rfl⟩ := he
          obtain ⟨R', t'⟩ := clone_rel (g := g) R (Turns.refl _ _) none (by rw [show Try.prog.cellsOf 5 = 1 from by kernel_rfl]; decide)
          exact ⟨_, _, rfl, R', t'⟩
        | some ad =>
          refine ((callsIn_wide (n := 0)).1 (clone_empty w ad cap)).mono fun e w' he => ?_
          obtain ⟨ad', rfl, ht⟩ := he
          obtain ⟨R', t'⟩ := clone_rel (g := g) R ht ad' (by rw [show Try.prog.cellsOf 5 = 1 from by kernel_rfl]; decide)
          exact ⟨_, _, rfl, R', t'⟩
    · cases h
  · cases h
end Go.Proofs.Ytffofdfikmpanaa.A

namespace Go.Proofs.Ytffofdfikmpanaa.A
open Go Go.Proofs Go.Shelf
def laysCut_ren : Go.Shelf.Ren := ⟨fun | 4 => 71 | 5 => 107 | 6 => 142 | 7 => 42 | 8 => 143 | 9 => 144 | 10 => 145 | 11 => 181 | 12 => 182 | n => n, fun | 22 => 30 | 4 => 4 | 3 => 3 | 0 => 0 | 5 => 5 | 29 => 92 | 9 => 9 | 31 => 193 | 30 => 22 | n => n, fun | 0 => 0 | n => n⟩
theorem laysCut : Go.Proofs.SlLaysT.n4 Try.prog laysCut_ren := {
  mixed := by kernel_rfl
  f4 := Try.func71.trans (congrArg some (by kernel_rfl))
  f5 := Try.func107.trans (congrArg some (by kernel_rfl))
  f6 := Try.func142.trans (congrArg some (by kernel_rfl))
  f7 := Try.func42.trans (congrArg some (by kernel_rfl))
  f8 := Try.func143.trans (congrArg some (by kernel_rfl))
  f9 := Try.func144.trans (congrArg some (by kernel_rfl))
  f10 := Try.func145.trans (congrArg some (by kernel_rfl))
  f11 := Try.func181.trans (congrArg some (by kernel_rfl))
  f12 := Try.func182.trans (congrArg some (by kernel_rfl))
  t0 := Try.underlying0
  a0 := Try.isAgg0
  z0 := Try.sizeOf0
  v0 := Try.zeroValue0
  t3 := Try.underlying3
  a3 := Try.isAgg3
  z3 := Try.sizeOf3
  v3 := Try.zeroValue3
  t4 := Try.underlying4
  a4 := Try.isAgg4
  z4 := Try.sizeOf4
  v4 := Try.zeroValue4
  t5 := Try.underlying5
  a5 := Try.isAgg5
  z5 := Try.sizeOf5
  v5 := Try.zeroValue5
  t9 := Try.underlying9
  a9 := Try.isAgg9
  z9 := Try.sizeOf9
  v9 := Try.zeroValue9
  t22 := Try.underlying30
  a22 := Try.isAgg30
  z22 := Try.sizeOf30
  v22 := Try.zeroValue30
  t29 := Try.underlying92
  a29 := Try.isAgg92
  z29 := Try.sizeOf92
  v29 := Try.zeroValue92
  t30 := Try.underlying22
  a30 := Try.isAgg22
  z30 := Try.sizeOf22
  v30 := Try.zeroValue22
  t31 := Try.underlying193
  a31 := Try.isAgg193
  z31 := Try.sizeOf193
  v31 := Try.zeroValue193
  g0 := by kernel_rfl }
def laysTS_ren : Go.Shelf.Ren := ⟨fun | 140 => 72 | 117 => 108 | 115 => 42 | n => n, fun | 37 => 30 | 4 => 4 | 3 => 3 | 9 => 9 | 5 => 5 | n => n, fun | n => n⟩
theorem laysTS : Go.Proofs.Lays.nb140 Try.prog laysTS_ren := {
  mixed := by kernel_rfl
  f115 := Try.func42.trans (congrArg some (by kernel_rfl))
  f117 := Try.func108.trans (congrArg some (by kernel_rfl))
  f140 := Try.func72.trans (congrArg some (by kernel_rfl))
  t3 := Try.underlying3
  a3 := Try.isAgg3
  z3 := Try.sizeOf3
  v3 := Try.zeroValue3
  t4 := Try.underlying4
  a4 := Try.isAgg4
  z4 := Try.sizeOf4
  v4 := Try.zeroValue4
  t9 := Try.underlying9
  a9 := Try.isAgg9
  z9 := Try.sizeOf9
  v9 := Try.zeroValue9
  t37 := Try.underlying30
  a37 := Try.isAgg30
  z37 := Try.sizeOf30
  v37 := Try.zeroValue30
  t5 := Try.underlying5
  a5 := Try.isAgg5
  z5 := Try.sizeOf5
  v5 := Try.zeroValue5 }
end Go.Proofs.Ytffofdfikmpanaa.A

namespace Go.Proofs.Ytffofdfikmpanaa.A
open Go Go.Proofs Go.Shelf Go.RowKit
set_option linter.unusedVariables false

section
variable {P : Program} {ρ : Ren}
set_option maxHeartbeats 1000000 in
set_option maxRecDepth 100000 in
theorem indexByte_none (L : Lays.n187 P ρ) (c : Nat) (cv : Int) (w : World) :
    Calls P (ρ.f 187) #[.slice none 0 c, .int .u8 cv] w fun e w' => e = .returned (.int .i64 (-1)) ∧ w' = w := by
  have t3 := L.t3; have t5 := L.t5; have t37 := L.t37
  have a3 := L.a3; have a5 := L.a5; have a37 := L.a37
  have mixed := L.mixed; have z3 := L.z3; have v3 := L.v3; have z5 := L.z5; have v5 := L.v5; have z37 := L.z37; have v37 := L.v37
  go_enter L.f187, Body.n187_ntmps ρ
  go_wp2
  rw [run_callFunc_extern L.f255 (by kernel_rfl) (by kernel_rfl) (by kernel_rfl) (e := Extern.BytealgIndexByte.indexByte) (by kernel_rfl), Lib.run_indexByteNil w 0 c cv]
  simp only [Result.andThen]
  rw [Oper.upon_value]
  go_wp2
  go_ret
  exact ⟨rfl, rfl⟩

set_option maxHeartbeats 2000000 in
set_option maxRecDepth 1000000 in
theorem index_none (L : Lays.n185 P ρ) (c b2 o2 d : Nat) (cv : Int) (w : World) (hc2 : w.cell? ⟨b2, o2, none⟩ = some (.int .u8 cv)) :
    Calls P (ρ.f 185) #[.slice none 0 c, .slice (some ⟨b2, o2, none⟩) 1 d] w fun e w' => e = .returned (.int .i64 (-1)) ∧ w' = w := by
  have mixed := L.mixed; have t0 := L.t0; have a0 := L.a0; have z0 := L.z0; have v0 := L.v0; have t3 := L.t3; have a3 := L.a3; have z3 := L.z3; have v3 := L.v3; have t4 := L.t4; have a4 := L.a4; have z4 := L.z4; have v4 := L.v4; have t5 := L.t5; have a5 := L.a5; have z5 := L.z5; have v5 := L.v5; have t9 := L.t9; have a9 := L.a9; have z9 := L.z9; have v9 := L.v9; have t37 := L.t37; have a37 := L.a37; have z37 := L.z37; have v37 := L.v37; have t46 := L.t46; have a46 := L.a46; have z46 := L.z46; have v46 := L.v46; have t51 := L.t51; have a51 := L.a51; have z51 := L.z51; have v51 := L.v51; have t146 := L.t146; have a146 := L.a146; have z146 := L.z146; have v146 := L.v146; have g1 := L.g1
  have e187 : ∀ args w, (callFunc (ρ.f 187) args).run P w = .ok (.enter (ρ.f 187) args) w := enters_of L.f187 (by kernel_rfl) rfl
  go_enter L.f185, Body.n185_ntmps ρ
  go_wp2_with (go_at_fn (ρ.f 187); refine (indexByte_none (P := P) (ρ := ρ) { L with } c cv _).mono ?_; rintro e w' ⟨rfl, rfl⟩)
  go_ret
  exact ⟨rfl, rfl⟩
end

/-- bytes.Cut at the byte 10, whatever the address. -/
theorem cut_nl (p : Option Addr) (n c b2 o2 d : Nat) (xs : List Int) (w : World) (hx : xs.length = n) (hcap : n ≤ c) (hn : n ≤ 4611686018427387904) (h1 : Lib.BytesIn w p n xs) (hc2 : w.cell? ⟨b2, o2, none⟩ = some (.int .u8 10)) :
    Calls Try.prog 71 #[.slice p n c, .slice (some ⟨b2, o2, none⟩) 1 d] w fun e w' => e = .returned (Lib.cutV p n c 1 (Lib.indexByte (Lib.bytesOf xs) 10)) ∧ ∃ q, w' = w.drewN q := by
  have hlen : (Lib.bytesOf xs).length = n := by rw [Lib.bytesOf_length, hx]
  refine Any.bytes_Cut_of laysCut p (some ⟨b2, o2, none⟩) n c 1 d _ w hcap (Lib.indexByte_ge _ _) (fun h => ?_) hn ?_
  · obtain ⟨o, ho⟩ := Int.eq_ofNat_of_zero_le h
    have := (List.getElem?_eq_some_iff.1 (Lib.indexByte_some ho).1).1
    rw [ho]; rw [hlen] at this; omega
  · show Calls Try.prog (laysCut_ren.viaSlbt.f 185) _ _ _
    cases p with
    | none =>
      obtain rfl : n = 0 := by
        rcases Nat.eq_zero_or_pos n with h | h
        · exact h
        · obtain ⟨_, _, h, _⟩ := h1 h; cases h
      obtain rfl : xs = [] := List.eq_nil_of_length_eq_zero hx
      exact (index_none laysCut.index c b2 o2 d 10 w hc2).mono fun _ _ ⟨he, hw⟩ => ⟨he, 0, hw⟩
    | some a =>
      refine (Any.bytes_Index_one_at laysCut.index a n c b2 o2 d xs 10 w hx (fun i hi => ?_) hc2).mono fun _ _ ⟨he, hw⟩ => ⟨he, 0, hw⟩
      obtain ⟨b, o, he, hc⟩ := h1 (by omega)
      cases he
      rw [Go.WideShapes.add_plain]; exact hc i hi

/-- bytes.TrimSuffix of one byte. -/
theorem trim_one (p : Option Addr) (n c b2 o2 d : Nat) (xs : List Int) (v : Int) (w : World) (hx : xs.length = n) (hcap : n ≤ c) (hn : n ≤ 4611686018427387904) (h1 : Lib.BytesIn w p n xs) (hc2 : w.cell? ⟨b2, o2, none⟩ = some (.int .u8 v)) :
    Calls Try.prog 72 #[.slice p n c, .slice (some ⟨b2, o2, none⟩) 1 d] w fun e w' => e = .returned (Lib.trimSuffixV p n c xs [v]) ∧ w' = w :=
  Any.bytes_TrimSuffix_all laysTS p (some ⟨b2, o2, none⟩) n c 1 d xs [v] w hx rfl hcap (by omega) h1 fun _ => ⟨b2, o2, rfl, fun i hi => by
    have : i = 0 := by omega
    subst this
    exact hc2⟩
end Go.Proofs.Ytffofdfikmpanaa.A

namespace Go.Proofs.Ytffofdfikmpanaa.A
open Go Go.Proofs Go.RowKit
set_option linter.unusedVariables false
set_option linter.unusedSimpArgs false
attribute [local go_sem] Oper.semAt_some

def numOf : V → Int
  | .int _ n => n
  | _ => 0
theorem isU8_eq {v : V} (h : v.isU8 = true) : v = .int .u8 (numOf v) ∧ 0 ≤ numOf v ∧ numOf v < 256 := by
  unfold V.isU8 at h
  split at h
  · rw [Bool.and_eq_true, decide_eq_true_eq, decide_eq_true_eq] at h
    exact ⟨rfl, h.1, h.2⟩
  · cases h
theorem isN_iff {v : V} (h : v.isU8 = true) (m : Int) : v.isN m = true ↔ numOf v = m := by
  unfold V.isU8 at h
  split at h
  · simp [V.isN, numOf]
  · cases h

/-- The bytes of values that are bytes. -/
def numsV (l : List V) : List Int := l.map numOf
theorem numsV_length (l : List V) : (numsV l).length = l.length := by simp [numsV]

theorem ofNat_eq {n : Int} (h0 : 0 ≤ n) (h1 : n < 256) (m : Nat) (hm : m < 256) : UInt8.ofNat n.toNat = UInt8.ofNat m ↔ n = m := by
  constructor
  · intro h
    have := congrArg UInt8.toNat h
    simp only [UInt8.toNat_ofNat'] at this
    omega
  · rintro rfl; simp

theorem cutV_index : ∀ {l : List V}, (∀ v ∈ l, v.isU8 = true) →
    ((cutV l).2 = none → (cutV l).1 = l ∧ Lib.indexByte (Lib.bytesOf (numsV l)) 10 = -1) ∧
    (∀ r, (cutV l).2 = some r → (∃ v, l = (cutV l).1 ++ v :: r) ∧ Lib.indexByte (Lib.bytesOf (numsV l)) 10 = ((cutV l).1.length : Nat))
  | [], _ => ⟨fun _ => ⟨rfl, rfl⟩, fun r h => by cases h⟩
  | v :: l, hu => by
    have hv := hu v (by simp)
    obtain ⟨i1, i2⟩ := cutV_index (l := l) fun x hx => hu x (by simp [hx])
    obtain ⟨he, h0, h1⟩ := isU8_eq hv
    have hb : Lib.bytesOf (numsV (v :: l)) = UInt8.ofNat (numOf v).toNat :: Lib.bytesOf (numsV l) := rfl
    have h10 : (UInt8.ofNat (numOf v).toNat == (10 : UInt8)) = v.isN 10 := by
      rw [Bool.eq_iff_iff, beq_iff_eq, isN_iff hv]
      exact ofNat_eq h0 h1 10 (by omega)
    rw [hb]
    unfold Lib.indexByte
    rw [h10]
    unfold cutV
    cases hn : v.isN 10 with
    | true =>
      refine ⟨fun h => by simp at h, fun r h => ?_⟩
      simp only [if_true, Option.some.injEq] at h
      subst h
      exact ⟨⟨v, by simp⟩, by simp⟩
    | false =>
      simp only [Bool.false_eq_true, if_false]
      refine ⟨fun h => ?_, fun r h => ?_⟩
      · obtain ⟨j1, j2⟩ := i1 h
        exact ⟨by rw [j1], by rw [j2]; rfl⟩
      · obtain ⟨⟨x, j1⟩, j2⟩ := i2 r h
        refine ⟨⟨x, by rw [List.cons_append, ← j1]⟩, ?_⟩
        rw [j2, if_neg (by simp)]
        simp

theorem trimV_value {p : Option Addr} {c : Nat} {l : List V} (hu : ∀ v ∈ l, v.isU8 = true) (hp : 0 < l.length → ∃ b o, p = some ⟨b, o, none⟩) :
    Lib.trimSuffixV p l.length c (numsV l) [13] = .slice p (trimV l).length c := by
  rcases List.eq_nil_or_concat l with rfl | ⟨l', v, rfl⟩
  · unfold Lib.trimSuffixV
    split
    · rename_i b o y ys h1 h2
      cases h2
      rfl
    · rfl
  · rw [List.concat_eq_append] at hu hp ⊢
    obtain ⟨b, o, rfl⟩ := hp (by simp)
    have hv := hu v (by simp)
    obtain ⟨he, h0, h1⟩ := isU8_eq hv
    have hs : Lib.hasSuffix (Lib.bytesOf (numsV (l' ++ [v]))) (Lib.bytesOf [13]) = v.isN 13 := by
      rw [Bool.eq_iff_iff, isN_iff hv]
      unfold Lib.hasSuffix
      rw [List.isSuffixOf_iff_suffix]
      have hb : Lib.bytesOf (numsV (l' ++ [v])) = Lib.bytesOf (numsV l') ++ [UInt8.ofNat (numOf v).toNat] := by simp [Lib.bytesOf, numsV]
      have h13 : Lib.bytesOf [13] = [(13 : UInt8)] := rfl
      rw [hb, h13]
      have : [(13 : UInt8)] <:+ Lib.bytesOf (numsV l') ++ [UInt8.ofNat (numOf v).toNat] ↔ UInt8.ofNat (numOf v).toNat = UInt8.ofNat 13 := by
        constructor
        · rintro ⟨t, ht⟩
          have := congrArg List.getLast? ht
          simpa using this.symm
        · intro h; rw [h]; exact ⟨_, rfl⟩
      rw [this]
      exact ofNat_eq h0 h1 13 (by omega)
    show Lib.bytesTrimSuffix b o (l' ++ [v]).length c (numsV (l' ++ [v])) [13] = _
    unfold Lib.bytesTrimSuffix
    rw [hs]
    unfold trimV
    simp only [List.getLast?_append, List.getLast?_singleton, Option.some_or]
    cases v.isN 13 with
    | true => simp [Lib.sliceTo]
    | false => rfl

/-- A list's bytes at an address. -/
structure Lst (w : World) (Z : Nat → Prop) (p : Option Addr) (c : Nat) (l : List V) : Prop where
  cap : l.length ≤ c
  u8 : ∀ v ∈ l, v.isU8 = true
  pos : ∀ (i : Nat) (v : V), l[i]? = some v → ∃ b o, p = some ⟨b, o, none⟩ ∧ Z b ∧ w.cell? ⟨b, o + i, none⟩ = some (.int .u8 (numOf v))

theorem cutV_pre {l r : List V} (hu : ∀ v ∈ l, v.isU8 = true) (h : (cutV l).2 = some r) : (cutV l).1.length + 1 + r.length = l.length ∧ (∀ (i : Nat), i < (cutV l).1.length → (cutV l).1[i]? = l[i]?) ∧ ∀ i : Nat, r[i]? = l[(cutV l).1.length + 1 + i]? := by
  obtain ⟨v, hv⟩ := ((cutV_index hu).2 r h).1
  clear hu h
  generalize (cutV l).1 = a at hv ⊢
  subst hv
  refine ⟨by simp; omega, fun i hi => by rw [List.getElem?_append_left hi], fun i => ?_⟩
  rw [List.getElem?_append_right (by omega), show a.length + 1 + i - a.length = i + 1 by omega]
  rfl

/-- The address of what is behind j bytes. -/
def nextA (p : Option Addr) (c j : Nat) : Option Addr := if c = j then p else p.map (fun x => x.add j)

/-- The lines, as the model's values. -/
def eachC : Nat → Option Addr → Nat → List V → List (List Value)
  | 0, p, c, l => [[.slice p l.length c]]
  | f + 1, p, c, l => match (cutV l).2 with
    | some r => [.slice p (trimV (cutV l).1).length c] :: eachC f (nextA p c ((cutV l).1.length + 1)) (c - ((cutV l).1.length + 1)) r
    | none => [[.slice p (cutV l).1.length c]]

theorem eachC_length : ∀ {f : Nat} {p : Option Addr} {c : Nat} {l : List V}, (eachC f p c l).length = (eachL f l).length
  | 0, _, _, _ => rfl
  | f + 1, p, c, l => by
    simp only [eachC, eachL]
    cases (cutV l).2 with
    | some r => simp [eachC_length (f := f)]
    | none => rfl

theorem Lst.next {w : World} {Z : Nat → Prop} {p : Option Addr} {c : Nat} {l r : List V} (h : Lst w Z p c l) (hr : (cutV l).2 = some r) : Lst w Z (nextA p c ((cutV l).1.length + 1)) (c - ((cutV l).1.length + 1)) r := by
  obtain ⟨h1, h2, h3⟩ := cutV_pre h.u8 hr
  refine ⟨by have := h.cap; omega, fun v hv => ?_, fun i v hv => ?_⟩
  · obtain ⟨i, hi⟩ := List.getElem?_of_mem hv
    rw [h3] at hi
    exact h.u8 v (List.mem_of_getElem? hi)
  · have hi : i < r.length := (List.getElem?_eq_some_iff.1 hv).1
    rw [h3] at hv
    obtain ⟨b, o, rfl, hz, hc⟩ := h.pos _ v hv
    refine ⟨b, o + ((cutV l).1.length + 1), ?_, hz, by rw [Nat.add_assoc]; exact hc⟩
    unfold nextA
    rw [if_neg (by have := h.cap; omega), Option.map_some, Go.WideShapes.add_plain]

theorem Lst.bytesIn {w W : World} {Z : Nat → Prop} {p : Option Addr} {c : Nat} {l : List V} (h : Lst w Z p c l) (hW : ∀ b, Z b → W.heap[b]? = w.heap[b]?) : Lib.BytesIn W p l.length (numsV l) := fun hn => by
  obtain ⟨b, o, he, _, _⟩ := h.pos 0 l[0] (List.getElem?_eq_getElem hn)
  refine ⟨b, o, he, fun i hi => ?_⟩
  obtain ⟨b', o', he', hz, hc⟩ := h.pos i l[i] (List.getElem?_eq_getElem hi)
  rw [he] at he'; cases he'
  rw [World.cell?_of_block (w := w) (hW b hz), hc]
  simp [numsV, hi]

theorem Lst.pre {w : World} {Z : Nat → Prop} {p : Option Addr} {c : Nat} {l r : List V} (h : Lst w Z p c l) (hr : (cutV l).2 = some r) : Lst w Z p c (cutV l).1 := by
  obtain ⟨h1, h2, h3⟩ := cutV_pre h.u8 hr
  refine ⟨by have := h.cap; omega, fun v hv => ?_, fun i v hv => ?_⟩
  · obtain ⟨i, hi⟩ := List.getElem?_of_mem hv
    rw [h2 i (List.getElem?_eq_some_iff.1 hi).1] at hi
    exact h.u8 v (List.mem_of_getElem? hi)
  · rw [h2 i (List.getElem?_eq_some_iff.1 hv).1] at hv
    exact h.pos i v hv

/-- How much is left: what stands in the closure's cell. -/
def restLen (bc : Nat) (wr : World) : Nat := match wr.heap[bc]? with
  | some (.cells vs _ _) => (match (vs[0]? : Option Value) with
    | some (Value.slice _ n _) => n
    | _ => 0)
  | _ => 0
theorem restLen_eq {bc : Nat} {wr : World} {p : Option Addr} {n c : Nat} {ty : TypeId} {fz : Nat × Nat} (h : wr.heap[bc]? = some (.cells #[.slice p n c] ty fz)) : restLen bc wr = n := by
  unfold restLen; rw [h]; rfl

set_option maxRecDepth 100000 in
set_option maxHeartbeats 2000000 in
theorem each_iter {w : World} {ty : TypeId} {Z Fg : Nat → Prop} {bc : Nat} {p0 : Option Addr} {c0 : Nat} {l0 : List V} (hZ : ∀ b, Z b → b < w.heap.size) (hF : ∀ b, Fg b → b < w.heap.size ∧ ¬ Z b) (hbc : Fg bc) (hn0 : l0.length ≤ 4611686018427387904)
    (hcell : w.heap[bc]? = some (.cells #[.slice p0 l0.length c0] ty (0, 0))) (hl0 : Lst w Z p0 c0 l0) :
    IteratesO Try.prog 70 [.pointer (some ⟨bc, 0, none⟩)] (eachC l0.length p0 c0 l0) w Z Fg := by
  intro l J Jx W hW hFW hJ hJx hK hY h0
  refine callsIn_of_wp Try.func70 rfl trivial ?_ rfl
  simp only [Try.ntmps70, List.size_toArray, List.length_cons, List.length_nil, Nat.reduceAdd, Nat.reduceSub, Array.replicate_succ, Array.replicate_zero, List.push_toArray, List.append_toArray, List.nil_append, List.cons_append]
  show Code.wpIn _ _ _ (.block 0 (.loop _)) _ _ _
  refine wpIn_block ?_
  gi_loopw [3] (fun _ wr => ∃ (k f : Nat) (p : Option Addr) (c : Nat) (l : List V), (eachC l0.length p0 c0 l0).drop k = eachC f p c l ∧ l.length ≤ f ∧ l.length ≤ 4611686018427387904 ∧ J k wr ∧
      wr.heap[bc]? = some (.cells #[.slice p l.length c] ty (0, 0)) ∧ Lst w Z p c l)
    (fun _ (wr : World) => restLen bc wr)
  case atStart =>
    exact ⟨0, l0.length, p0, c0, l0, rfl, Nat.le_refl _, hn0, h0, by rw [hFW bc hbc]; exact hcell, hl0⟩
  case round =>
    obtain ⟨k, f, p, c, l, hd, hf, hn, hj, hb, hl⟩ := hrel
    have hcw : wr.cell? ⟨bc, 0, none⟩ = some (.slice p l.length c) := by rw [cell_row hb]; rfl
    have hmu := restLen_eq hb
    have hcv10 := fun W => Lib.run_convert_bytes_const (P := Try.prog) W 30 5 #[.int .u8 10] 1 1 Try.underlying30 Try.underlying5
    have hcv13 := fun W => Lib.run_convert_bytes_const (P := Try.prog) W 30 5 #[.int .u8 13] 1 1 Try.underlying30 Try.underlying5
    have hz : ∀ b, Z b → wr.heap[b]? = w.heap[b]? := fun b hb => (hK k wr hj).2 b hb
    have hsz : W.heap.size ≤ wr.heap.size := (hK k wr hj).1
    have hbl : bc < wr.heap.size := (Array.getElem?_eq_some_iff.1 hb).1
    have hzl : ∀ b, Z b → b < wr.heap.size → (wr.alloc (.cells #[.int .u8 10] 5 (1, 2))).heap[b]? = w.heap[b]? := fun b hb hlt => (RowKit.Below.heap_alloc _ _ _ hlt).trans (hz b hb)
    have h10 : (wr.alloc (.cells #[.int .u8 10] 5 (1, 2))).cell? ⟨wr.heap.size, 0, none⟩ = some (.int .u8 10) := by rw [cell_row (World.alloc_heap_new wr _)]; rfl
    have hj10 : ∀ q, J k ((wr.alloc (.cells #[.int .u8 10] 5 (1, 2))).drewN q) := fun q => hJ k wr _ hj ⟨rfl, rfl, rfl, by simp [World.drewN], fun b hb _ => RowKit.Below.heap_alloc _ _ _ hb⟩
    have hbi : Lib.BytesIn (wr.alloc (.cells #[.int .u8 10] 5 (1, 2))) p l.length (numsV l) := by
      have h1 := hl.bytesIn hz
      intro hn
      obtain ⟨b, o, he, hc⟩ := h1 hn
      exact ⟨b, o, he, fun i hi => Lib.cell?_alloc_marked _ (hc i hi)⟩
    have hcut := cut_nl p l.length c wr.heap.size 0 1 (numsV l) _ (numsV_length l) hl.cap hn hbi h10
    cases hr : (cutV l).2 with
    | none =>
      obtain ⟨hpre, hix⟩ := (cutV_index hl.u8).1 hr
      have hec : eachC f p c l = [[.slice p l.length c]] := by
        cases f with
        | zero => rfl
        | succ f => simp only [eachC, hr, hpre]
      have hget : (eachC l0.length p0 c0 l0)[k]? = some [.slice p l.length c] := by
        have := congrArg (·[0]?) hd
        simpa [hec] using this
      rw [hix, show Lib.cutV p l.length c 1 (-1) = .tuple #[.slice p l.length c, .slice none 0 0, .bool false] from rfl] at hcut
      gi_wp2
      refine ⟨trivial, rfl, CallsIn.mono ((callsIn_wide (n := 0)).2 hcut) ?_⟩
      rintro e W2 ⟨rfl, q, hW2⟩
      have hj2 : J k W2 := hW2 ▸ hj10 q
      clear hW2
      obtain ⟨fn, tmps, assign, body, hy, hR⟩ := hY k _ _ hget hj2
      gi_wp2
      refine ⟨rfl, hR.mono ?_⟩
      rintro e W3 ⟨_, (⟨rfl, hJ3⟩ | ⟨rfl, hJx3⟩)⟩
      · gi_wp2
        refine bodyPost_ret (results_none rfl _ _ _) rfl ?_
        refine ⟨⟨_, rfl⟩, .inl ?_⟩
        have : (eachC l0.length p0 c0 l0).length = k + 1 := by
          have h1 := congrArg List.length hd
          have h2 := (List.getElem?_eq_some_iff.1 hget).1
          rw [hec] at h1
          simp at h1; omega
        rw [this]; exact hJ3
      · gi_wp2
        refine bodyPost_ret (results_none rfl _ _ _) rfl ?_
        exact ⟨⟨_, rfl⟩, .inr hJx3⟩
    | some r =>
      obtain ⟨_, hix⟩ := (cutV_index hl.u8).2 r hr
      obtain ⟨hlen, _, _⟩ := cutV_pre hl.u8 hr
      have hla := hl.pre hr
      have hln := hl.next hr
      obtain ⟨f, rfl⟩ : ∃ f', f = f' + 1 := ⟨f - 1, by omega⟩
      have hec : eachC (f + 1) p c l = [.slice p (trimV (cutV l).1).length c] :: eachC f (nextA p c ((cutV l).1.length + 1)) (c - ((cutV l).1.length + 1)) r := by simp only [eachC, hr]
      rw [hec] at hd
      have hget : (eachC l0.length p0 c0 l0)[k]? = some [.slice p (trimV (cutV l).1).length c] := by
        have := congrArg (·[0]?) hd
        simpa using this
      have hd2 : (eachC l0.length p0 c0 l0).drop (k + 1) = eachC f (nextA p c ((cutV l).1.length + 1)) (c - ((cutV l).1.length + 1)) r := by
        rw [← List.drop_drop, hd]; rfl
      have hrl : l.length - ((cutV l).1.length + 1) = r.length := by omega
      rw [hix, show Lib.cutV p l.length c 1 (((cutV l).1.length : Nat) : Int) = .tuple #[.slice p (cutV l).1.length c, .slice (nextA p c ((cutV l).1.length + 1)) r.length (c - ((cutV l).1.length + 1)), .bool true] by
        unfold Lib.cutV Lib.fromV nextA; rw [if_pos (by omega), Int.toNat_natCast, hrl]] at hcut
      generalize (cutV l).1 = a at *
      gi_wp2
      refine ⟨trivial, rfl, CallsIn.mono ((callsIn_wide (n := 0)).2 hcut) ?_⟩
      rintro e W2 ⟨rfl, q, hW2⟩
      have hj2 : J k W2 := hW2 ▸ hj10 q
      have hb2 : W2.heap[bc]? = some (.cells #[.slice p l.length c] ty (0, 0)) := by rw [hW2]; exact (RowKit.Below.heap_alloc _ _ _ hbl).trans hb
      clear hW2
      have hsz2 := (hK k W2 hj2).1
      have hz2 : ∀ b, Z b → (W2.alloc (.cells #[.int .u8 13] 5 (1, 2))).heap[b]? = w.heap[b]? := fun b hb => (RowKit.Below.heap_alloc _ _ _ (by have := hZ b hb; omega)).trans ((hK k W2 hj2).2 b hb)
      have h13 : (W2.alloc (.cells #[.int .u8 13] 5 (1, 2))).cell? ⟨W2.heap.size, 0, none⟩ = some (.int .u8 13) := by rw [cell_row (World.alloc_heap_new W2 _)]; rfl
      have htrim := trim_one p a.length c W2.heap.size 0 1 (numsV a) 13 _ (numsV_length a) hla.cap (by omega) (hla.bytesIn hz2) h13
      rw [trimV_value hla.u8 (fun hn => by obtain ⟨b, o, he, _⟩ := hla.bytesIn hz2 hn; exact ⟨b, o, he⟩)] at htrim
      gi_wp2
      refine ⟨trivial, rfl, CallsIn.mono ((callsIn_wide (n := 0)).2 htrim) ?_⟩
      rintro e W3 ⟨rfl, hW3⟩
      have hj3 : J k W3 := hJ k W2 _ hj2 (hW3 ▸ ⟨rfl, rfl, rfl, by simp, fun b hb _ => RowKit.Below.heap_alloc _ _ _ hb⟩)
      have hb3 : W3.heap[bc]? = some (.cells #[.slice p l.length c] ty (0, 0)) := by rw [hW3]; exact (RowKit.Below.heap_alloc _ _ _ (Array.getElem?_eq_some_iff.1 hb2).1).trans hb2
      clear hW3
      obtain ⟨fn, tmps, assign, body, hy, hR⟩ := hY k _ _ hget hj3
      gi_wp2
      refine ⟨rfl, hR.mono ?_⟩
      rintro e W4 ⟨hfg, (⟨rfl, hJ4⟩ | ⟨rfl, hJx4⟩)⟩
      · have hb4 := (hfg bc hbc).trans hb3
        have hc4 : W4.cell? ⟨bc, 0, none⟩ = some (.slice p l.length c) := by rw [cell_row hb4]; rfl
        have hfz : W4.frozen? ⟨bc, 0, none⟩ = false := by simp only [World.frozen?, hb4]; simp
        gi_wp2
        have hone := one_setCell (u := .slice (nextA p c (a.length + 1)) r.length (c - (a.length + 1))) hb4
        refine ⟨⟨k + 1, f, _, _, r, hd2, by omega, by omega, hJ _ W4 _ hJ4 ⟨rfl, rfl, rfl, by simp, fun b hb hn => Below.heap_setCell _ _ _ _ fun e => hn (by rw [e]; exact hbc)⟩, hone, hln⟩, ?_⟩
        rw [restLen_eq hone, hmu]
        omega
      · gi_wp2
        refine bodyPost_ret (results_none rfl _ _ _) rfl ?_
        exact ⟨⟨_, rfl⟩, .inr hJx4⟩

theorem Lst.sub {w : World} {Z : Nat → Prop} {p : Option Addr} {c : Nat} {l y : List V} (h : Lst w Z p c l) (hy : ∀ (i : Nat) (v : V), y[i]? = some v → l[i]? = some v) : Lst w Z p c y := by
  refine ⟨?_, fun v hv => ?_, fun i v hv => h.pos i v (hy i v hv)⟩
  · have hc := h.cap
    rcases Nat.lt_or_ge l.length y.length with hlt | hge
    · have := hy l.length _ (List.getElem?_eq_getElem hlt)
      have := (List.getElem?_eq_some_iff.1 this).1
      omega
    · omega
  · obtain ⟨i, hi⟩ := List.getElem?_of_mem hv
    exact h.u8 v (List.mem_of_getElem? (hy i v hi))

theorem trimV_sub (l : List V) (i : Nat) (v : V) (h : (trimV l)[i]? = some v) : l[i]? = some v := by
  unfold trimV at h
  split at h
  · split at h
    · rw [List.getElem?_dropLast] at h
      split at h
      · exact h
      · cases h
    · exact h
  · exact h

theorem Lst.rep {w : World} {Zs Zx : Nat → Prop} {s : Bool} {p : Option Addr} {c : Nat} {x : List V} (h : Lst w (fun b => if s then Zx b else Zs b) p c x) : PRep w Zs Zx (.sl s false 1 x) (.slice p x.length c) := by
  cases hx : x with
  | nil => exact .sl0 s false 1 p c (by simp)
  | cons v0 r =>
    rw [← hx]
    obtain ⟨b, o, rfl, hz, _⟩ := h.pos 0 v0 (by rw [hx]; rfl)
    have hcl : ∀ (i : Nat) (e : V), x[i]? = some e → e.cells = [e] := fun i e he => by
      rw [(isU8_eq (h.u8 e (List.mem_of_getElem? he))).1]; rfl
    have one : ∀ (i j : Nat) (e v : V), x[i]? = some e → e.cells[j]? = some v → j = 0 ∧ v = e := fun i j e v he hv => by
      rw [hcl i e he] at hv
      cases j with
      | zero => cases hv; exact ⟨rfl, rfl⟩
      | succ j => simp at hv
    have cell : ∀ (i : Nat) (e : V), x[i]? = some e → w.cell? ⟨b, o + i * 1 + 0, none⟩ = some (.int .u8 (numOf e)) := fun i e he => by
      obtain ⟨b', o', he', _, hc⟩ := h.pos i e he
      cases he'
      rw [Nat.mul_one, Nat.add_zero]; exact hc
    refine .sl s false 1 x b o c (by simp) h.cap hz (fun i e he => by rw [hcl i e he]; rfl) (fun i j e v he hv => ?_) (fun i j e v he hv => ?_) fun i j e v c' he hv hc' => ?_
    · obtain ⟨_, rfl⟩ := one i j e v he hv
      rw [(isU8_eq (h.u8 v (List.mem_of_getElem? he))).1]; rfl
    · obtain ⟨rfl, rfl⟩ := one i j e v he hv
      exact ⟨_, cell i v he⟩
    · obtain ⟨rfl, rfl⟩ := one i j e v he hv
      rw [cell i v he] at hc'
      cases hc'
      have := (isU8_eq (h.u8 v (List.mem_of_getElem? he))).1
      rw [this]
      exact .int _ _

theorem each_rep {w : World} {Zs Zx : Nat → Prop} {s : Bool} : ∀ {f : Nat} {p : Option Addr} {c : Nat} {l : List V}, Lst w (fun b => if s then Zx b else Zs b) p c l → ∀ (i : Nat) (x : List V) (e : List Value), (eachL f l)[i]? = some x → (eachC f p c l)[i]? = some e →
    ∃ v, e = [v] ∧ PRep w Zs Zx (.sl s false 1 x) v
  | 0, p, c, l, h, i, x, e, hx, he => by
    cases i with
    | zero => simp only [eachL, eachC, List.getElem?_cons_zero, Option.some.injEq] at hx he; subst hx; subst he; exact ⟨_, rfl, h.rep⟩
    | succ i => simp [eachL] at hx
  | f + 1, p, c, l, h, i, x, e, hx, he => by
    simp only [eachL, eachC] at hx he
    cases hr : (cutV l).2 with
    | some r =>
      rw [hr] at hx he
      dsimp only at hx he
      cases i with
      | zero =>
        simp only [List.getElem?_cons_zero, Option.some.injEq] at hx he
        subst hx; subst he
        exact ⟨_, rfl, ((h.pre hr).sub (trimV_sub _)).rep⟩
      | succ i =>
        simp only [List.getElem?_cons_succ] at hx he
        exact each_rep (h.next hr) i x e hx he
    | none =>
      rw [hr] at hx he
      dsimp only at hx he
      cases i with
      | zero =>
        simp only [List.getElem?_cons_zero, Option.some.injEq] at hx he
        subst hx; subst he
        have := ((cutV_index h.u8).1 hr).1
        rw [this]
        exact ⟨_, rfl, h.rep⟩
      | succ i => simp at hx

theorem Lst.mono {w : World} {Z Z' : Nat → Prop} {p : Option Addr} {c : Nat} {l : List V} (h : Lst w Z p c l) (hz : ∀ b, Z b → Z' b) : Lst w Z' p c l :=
  ⟨h.cap, h.u8, fun i v hv => by obtain ⟨b, o, h1, h2, h3⟩ := h.pos i v hv; exact ⟨b, o, h1, hz b h2, h3⟩⟩

/-- A RANGE OVER A TEXT'S LINES. -/
theorem each_sound {s ex : Bool} {ty : TypeId} {es : List V} {items : List (List V)} (hi : eachItems s es = some items) {w : World} {Zs Zx : Nat → Prop} {c : Value} {Fg : Nat → Prop}
    (hT : TRep Try.prog w Zs Zx none (.opt ty [.p (.sl s ex 1 es)]) c Fg) (hsx : ∀ b, Zs b → Zx b) (hZ : ∀ b, Zx b → b < w.heap.size) (hF : ∀ b, Fg b → b < w.heap.size ∧ ¬ Zx b) :
    ∃ encs : List (List Value), encs.length = items.length ∧ (∀ (i : Nat) (x : List V) (e : List Value), items[i]? = some x → encs[i]? = some e → e.length = x.length ∧ ∀ (k : Nat) (v : V) (c : Value), x[k]? = some v → e[k]? = some c → PRep w Zs Zx v c) ∧
      IteratesO Try.prog 70 [c] encs w Zx Fg := by
  unfold eachItems at hi
  split at hi
  · rename_i hh
    rw [Bool.and_eq_true, decide_eq_true_eq] at hh
    obtain ⟨hlen, hu⟩ := hh
    cases hi
    have hu : ∀ v ∈ es, v.isU8 = true := List.all_eq_true.1 hu
    cases hT with
    | opt _ _ _ b vs _ G hw0 hl h1 h hFF hb hd =>
      obtain ⟨vs⟩ := vs
      obtain ⟨c0, rfl⟩ : ∃ c0, vs = [c0] := List.length_eq_one_iff.1 (by simpa using hl.symm)
      have hp := h 0 _ c0 rfl rfl
      have main : ∀ (p : Option Addr) (cap : Nat), c0 = .slice p es.length cap → Lst w (fun b => if s then Zx b else Zs b) p cap es → _ := fun p cap hc0 hls =>
        (⟨eachC es.length p cap es, by rw [eachC_length, List.length_map], fun i x e hx he => by
          rw [List.getElem?_map, Option.map_eq_some_iff] at hx
          obtain ⟨l, hl, rfl⟩ := hx
          obtain ⟨v, rfl, hv⟩ := each_rep hls i l e hl he
          refine ⟨rfl, fun k v' c' hk hc' => ?_⟩
          cases k with
          | zero => cases hk; cases hc'; exact hv
          | succ k => simp at hk, each_iter hZ hF ((hFF b).2 (.inl rfl)) hlen (by rw [hw0, hc0]) (hls.mono fun b hb => by cases s; exact hsx b hb; exact hb)⟩ :
          ∃ encs : List (List Value), encs.length = ((eachL es.length es).map fun l => [V.sl s false 1 l]).length ∧ (∀ (i : Nat) (x : List V) (e : List Value), ((eachL es.length es).map fun l => [V.sl s false 1 l])[i]? = some x → encs[i]? = some e → e.length = x.length ∧ ∀ (k : Nat) (v : V) (c : Value), x[k]? = some v → e[k]? = some c → PRep w Zs Zx v c) ∧
            IteratesO Try.prog 70 [.pointer (some ⟨b, 0, none⟩)] encs w Zx Fg)
      cases hp with
      | p _ _ _ _ hp _ =>
        generalize hes : es = es' at hp
        cases hp with
        | sl0 _ _ _ a cap he =>
          subst hes
          exact main a cap rfl ⟨by simp, by simp, fun i v hv => by simp at hv⟩
        | sl _ _ _ _ b2 off cap he hc hz hcl h1' hd2 h2 =>
          subst hes
          refine main _ cap rfl ⟨hc, hu, fun i v hv => ?_⟩
          obtain ⟨e1, _, _⟩ := isU8_eq (hu v (List.mem_of_getElem? hv))
          have hcells : v.cells = [v] := by rw [e1]; rfl
          obtain ⟨c1, hc1⟩ := hd2 i 0 v v hv (by rw [hcells]; rfl)
          have hp := h2 i 0 v v c1 hv (by rw [hcells]; rfl) hc1
          refine ⟨b2, off, rfl, hz, ?_⟩
          rw [Nat.mul_one, Nat.add_zero] at hc1
          rw [hc1]
          rw [e1] at hp
          cases hp
          rfl
  · cases hi
end Go.Proofs.Ytffofdfikmpanaa.A

namespace Go.Proofs.Ytffofdfikmpanaa.A
open Go Go.Proofs Go.ChangeShapes Go.WideShapes Go.ChangeAt Go.RowKit
set_option linter.unusedVariables false

theorem own0 : ownKnob Try.prog.godebug = none := by kernel_rfl
theorem laid0 : laidOutB Try.prog = true := by kernel_rfl
theorem mixed0 : Try.prog.follows .mixedOrders = true := by kernel_rfl
theorem same0 : HSound Try.prog HH := fun f h => by cases h
theorem iter0 : ISound Try.prog HH := by
  intro f caps items hi w Z vs hvl hZ hrep
  have key : ∀ f caps, HH.iter f caps = (match f, caps with | 146, [.ref _ [.sl _ _ _ es]] => downItems .u32 es | _, _ => none) := fun _ _ => rfl
  rw [key] at hi
  split at hi
  · exact down_sound hi hvl hrep
  · cases hi
set_option maxRecDepth 100000 in
theorem told0 : KSound Try.prog (fun f args => match HSP f with | some g => g args | none => none) := by
  intro f args r outs n h hsl hle
  by_cases hf : f = 51
  · subst hf
    exact clone_sound mixed0 h hsl hle
  · have key : ∀ f, HSP f = (match f with | 51 => some cloneTold | _ => none) := fun _ => rfl
    have h : (match HSP f with | some g => g args | none => none) = some (r, outs) := h
    rw [key] at h
    split at h
    · rename_i h2
      split at h2
      · contradiction
      · cases h2
    · cases h
theorem iterO0 : IOSound Try.prog HH := by
  intro f x items hi w Zs Zx c Fg hT hsx hZ hF
  have key : ∀ f x, HH.iterO f x = (match f, x with | 70, .opt _ [.p (.sl s _ 1 es)] => eachItems s es | _, _ => none) := fun _ _ => rfl
  rw [key] at hi
  split at hi
  · exact each_sound hi hT hsx hZ hF
  · cases hi
theorem ks (n : Nat) : KSound Try.prog (callN Try.prog HH HSP n) := callN_sound mixed0 same0 iter0 iterO0 told0 n

theorem PRep.snap {w : World} {Z : Nat → Prop} {ex : Bool} {sz : Nat} {es : List V} {c : Value} (h : PRep w Z Z (.sl false ex sz es) c) : PRep w Z Z (.sl true ex sz es) c := by
  cases h with
  | sl0 _ _ _ a cap he => exact .sl0 _ _ _ a cap he
  | sl _ _ _ _ b off cap he hc hz hcl h1 hd h => exact .sl _ _ _ _ b off cap he hc hz hcl h1 hd h

/-! ### What comes in -/

theorem u32_nats (l : List (intIn .u32)) : ∃ m : List Nat, isW m ∧ (l.map fun x : intIn .u32 => V.int .u32 x.1) = numV .u32 m := by
  refine ⟨l.map fun x => x.1.toNat, ?_, ?_⟩
  · intro d hd
    obtain ⟨⟨x, h1, h2⟩, _, rfl⟩ := List.mem_map.1 hd
    have h2' : x ≤ 4294967295 := by simpa [IntKind.max, IntKind.signed, IntKind.bits] using h2
    show x.toNat < 4294967296
    omega
  · unfold numV
    rw [List.map_map]
    refine List.map_congr_left fun x _ => ?_
    obtain ⟨x, h1, h2⟩ := x
    have h1' : 0 ≤ x := by simpa [IntKind.min, IntKind.signed] using h1
    simp only [Function.comp]
    rw [Int.toNat_of_nonneg h1']

theorem flat_bytes (l : List UInt8) : (l.flatMap fun x => (byteV x).cells) = bytesV l := by
  induction l with
  | nil => rfl
  | cons b l ih => rw [List.flatMap_cons, ih]; rfl

theorem cells22 : Try.prog.cellsOf 22 = 1 := by kernel_rfl

theorem abs_key (x : intIn .i64 × intIn .u32 × intIn .i64 × List (intIn .u32) × List (intIn .u32) × { l : List UInt8 // l.length = 32 } × Unit) :
    ∃ k : KeyM, k.Ok0 ∧ V.agg ((V.int .i64 x.1.1).cells ++ ((V.int .u32 x.2.1.1).cells ++ ((V.int .i64 x.2.2.1.1).cells ++ ((V.sl false false (Try.prog.cellsOf 22) (x.2.2.2.1.map fun y : intIn .u32 => V.int .u32 y.1)).cells ++
      ((V.sl false false (Try.prog.cellsOf 22) (x.2.2.2.2.1.map fun y : intIn .u32 => V.int .u32 y.1)).cells ++ ((V.agg (x.2.2.2.2.2.1.1.flatMap fun y => (byteV y).cells)).cells ++ [])))))) = V.agg (Cr.v rapi_Key k.tup) := by
  obtain ⟨⟨v, hv1, hv2⟩, ⟨c, hc1, hc2⟩, ⟨a, ha1, ha2⟩, n, e, ⟨p, hp⟩, _⟩ := x
  obtain ⟨n', hn, en⟩ := u32_nats n
  obtain ⟨e', he, ee⟩ := u32_nats e
  have hc1' : 0 ≤ c := by simpa [IntKind.min, IntKind.signed] using hc1
  have hc2' : c ≤ 4294967295 := by simpa [IntKind.max, IntKind.signed, IntKind.bits] using hc2
  refine ⟨⟨v, c.toNat, a, n', e', p⟩, ⟨by simpa [IntKind.min, IntKind.signed, IntKind.bits] using hv1, by simpa [IntKind.max, IntKind.signed, IntKind.bits] using hv2, by simp only; omega,
    by simpa [IntKind.min, IntKind.signed, IntKind.bits] using ha1, by simpa [IntKind.max, IntKind.signed, IntKind.bits] using ha2, hn, he, hp⟩, ?_⟩
  dsimp only
  rw [en, ee, flat_bytes, cells22]
  simp only [KeyM.tup, Cr.v, Cc.v, V.cells, arrV_intB hp, Int.toNat_of_nonneg hc1', List.append_nil, List.cons_append, List.nil_append]
end Go.Proofs.Ytffofdfikmpanaa.A

namespace Go.Proofs.Ytffofdfikmpanaa.A
open Go Go.Proofs Go.ChangeShapes Go.WideShapes Go.ChangeAt Go.RowKit
set_option linter.unusedVariables false
set_option linter.unusedSimpArgs false

theorem flat_byte_map (l : List UInt8) : l.map byteV = bytesV l := rfl
theorem cells5 : Try.prog.cellsOf 5 = 1 := by kernel_rfl
theorem cells101 : Try.prog.cellsOf 101 = 3 := by kernel_rfl

abbrev SubT : Type := intIn .i64 × Bool × List UInt8 × Unit
def SubT.m (x : SubT) : SubM := ⟨x.1.1, x.2.1, x.2.2.1⟩
theorem abs_sub (x : SubT) : V.agg ((V.int .i64 x.1.1).cells ++ ((V.bool x.2.1).cells ++ ((V.sl false false (Try.prog.cellsOf 5) (x.2.2.1.map byteV)).cells ++ []))) = (SubT.m x).v := by
  rw [cells5]; rfl
abbrev SigT : Type := intIn .i64 × intIn .i64 × intIn .i64 × intIn .i64 × List SubT × List SubT × { l : List UInt8 // l.length = 2 } × List UInt8 × List UInt8 × Unit

theorem abs_sig (x : SigT) :
    ∃ s : SigM, s.hs = x.2.2.2.2.1.map SubT.m ∧ s.us = x.2.2.2.2.2.1.map SubT.m ∧
      V.agg ((V.int .i64 x.1.1).cells ++ ((V.int .i64 x.2.1.1).cells ++ ((V.int .i64 x.2.2.1.1).cells ++ ((V.int .i64 x.2.2.2.1.1).cells ++
        ((V.sl false false (Try.prog.cellsOf 101) (x.2.2.2.2.1.map fun y : SubT => V.agg ((V.int .i64 y.1.1).cells ++ ((V.bool y.2.1).cells ++ ((V.sl false false (Try.prog.cellsOf 5) (y.2.2.1.map byteV)).cells ++ []))))).cells ++
        ((V.sl false false (Try.prog.cellsOf 101) (x.2.2.2.2.2.1.map fun y : SubT => V.agg ((V.int .i64 y.1.1).cells ++ ((V.bool y.2.1).cells ++ ((V.sl false false (Try.prog.cellsOf 5) (y.2.2.1.map byteV)).cells ++ []))))).cells ++
        ((V.agg (x.2.2.2.2.2.2.1.1.flatMap fun y => (byteV y).cells)).cells ++ ((V.sl false false (Try.prog.cellsOf 5) (x.2.2.2.2.2.2.2.1.map byteV)).cells ++ ((V.sl false false (Try.prog.cellsOf 5) (x.2.2.2.2.2.2.2.2.1.map byteV)).cells ++ []))))))))) = V.agg (Cr.v rapi_Sig s.tup) := by
  obtain ⟨a, b, c, d, h, u, ⟨l, hl⟩, t, v, _⟩ := x
  match l, hl with
  | [p, q], _ =>
    refine ⟨⟨a.1, b.1, c.1, d.1, h.map SubT.m, u.map SubT.m, p.toNat, q.toNat, t, v⟩, rfl, rfl, ?_⟩
    dsimp only
    simp only [abs_sub]
    rw [cells5, cells101]
    simp only [SigM.tup, Cr.v, Cc.v, V.cells, List.append_nil, List.cons_append, List.nil_append, List.flatMap_cons, List.flatMap_nil, byteV, subsV, List.map_map, flat_byte_map]
    rfl

theorem three_args {Q : V → Value → Prop} {a b c : V} {x y z : Value} (h0 : Q a x) (h1 : Q b y) (h2 : Q c z) : ∀ (i : Nat) (v : V) (w : Value), [a, b, c][i]? = some v → [x, y, z][i]? = some w → Q v w
  | 0, v, w, hv, hc => by cases hv; cases hc; exact h0
  | 1, v, w, hv, hc => by cases hv; cases hc; exact h1
  | 2, v, w, hv, hc => by cases hv; cases hc; exact h2
  | n + 3, v, w, hv, hc => by simp at hv
theorem two_args {Q : V → Value → Prop} {a b : V} {x y : Value} (h0 : Q a x) (h1 : Q b y) : ∀ (i : Nat) (v : V) (w : Value), [a, b][i]? = some v → [x, y][i]? = some w → Q v w
  | 0, v, w, hv, hc => by cases hv; cases hc; exact h0
  | 1, v, w, hv, hc => by cases hv; cases hc; exact h1
  | n + 2, v, w, hv, hc => by simp at hv
theorem two_of {α : Type} (x : { l : List α // l.length = 2 }) : ∃ a b, x.1 = [a, b] := by
  obtain ⟨l, hl⟩ := x
  match l, hl with
  | [a, b], _ => exact ⟨a, b, rfl⟩
theorem reach_le : reachBytes ≤ 1000000000000000 := by decide


theorem Opens.sig (W : World) : Opens Try.prog W 40 (fun s : SigM => V.agg (Cr.v rapi_Sig s.tup)) (fun _ => 0) (fun s => s.Ok0) := ⟨fun {H enc fuel cs d ps} h => by
  obtain ⟨x, hx, _, hf⟩ := (Opens.struct (P := Try.prog) (w := W) Try.underlying40 (by kernel_rfl) (by kernel_rfl)
    (OpensRow.cons (Opens.int Try.underlying3) (OpensRow.cons (Opens.int Try.underlying3) (OpensRow.cons (Opens.int Try.underlying3) (OpensRow.cons (Opens.int Try.underlying3)
    (OpensRow.cons (Opens.slice Try.underlying37 (by decide +kernel) (Opens.struct Try.underlying101 (by kernel_rfl) (by kernel_rfl) (OpensRow.cons (Opens.int Try.underlying3) (OpensRow.cons (Opens.bool Try.underlying4) (OpensRow.cons (Opens.slice Try.underlying30 (by decide +kernel) (Opens.byte Try.underlying5)) OpensRow.nil)))))
    (OpensRow.cons (Opens.slice Try.underlying37 (by decide +kernel) (Opens.struct Try.underlying101 (by kernel_rfl) (by kernel_rfl) (OpensRow.cons (Opens.int Try.underlying3) (OpensRow.cons (Opens.bool Try.underlying4) (OpensRow.cons (Opens.slice Try.underlying30 (by decide +kernel) (Opens.byte Try.underlying5)) OpensRow.nil)))))
    (OpensRow.cons (Opens.array Try.underlying38 (by kernel_rfl) (Opens.byte Try.underlying5)) (OpensRow.cons (Opens.slice Try.underlying30 (by decide +kernel) (Opens.byte Try.underlying5)) (OpensRow.cons (Opens.slice Try.underlying30 (by decide +kernel) (Opens.byte Try.underlying5)) OpensRow.nil)))))))))).run h
  obtain ⟨m0, es, eu, e0⟩ := abs_sig x
  refine ⟨m0, by rw [← e0]; exact hx, Nat.zero_le _, fun hw => ?_⟩
  obtain ⟨_, _, _, _, ⟨f1, f2⟩, ⟨f3, f4⟩, _⟩ := hf hw
  have hr := reach_le
  refine ⟨by rw [es, List.length_map]; omega, fun b hb => ?_, by rw [eu, List.length_map]; omega, fun b hb => ?_⟩
  · rw [es] at hb
    obtain ⟨y, hy, rfl⟩ := List.mem_map.1 hb
    have := (f2 y hy).2.2.1.1
    exact Nat.le_trans this hr
  · rw [eu] at hb
    obtain ⟨y, hy, rfl⟩ := List.mem_map.1 hb
    have := (f4 y hy).2.2.1.1
    exact Nat.le_trans this hr⟩
theorem Opens.bytes (W : World) : Opens Try.prog W 30 (fun l : List UInt8 => V.sl false false 1 (bytesV l)) (fun _ => 0) (fun l => l.length ≤ reachBytes) := ⟨fun {H enc fuel cs d ps} h => by
  obtain ⟨x, hx, _, hf⟩ := (Opens.slice (P := Try.prog) (w := W) Try.underlying30 (by decide +kernel) (Opens.byte Try.underlying5)).run h
  rw [cells5] at hx
  exact ⟨x, hx, Nat.zero_le _, fun hw => (hf hw).1⟩⟩
end Go.Proofs.Ytffofdfikmpanaa.A

namespace Go.Proofs.Ytffofdfikmpanaa.A
open Go Go.Proofs Go.ChangeShapes Go.WideShapes Go.ChangeAt Go.RowKit
set_option linter.unusedVariables false
set_option linter.unusedSimpArgs false

set_option maxRecDepth 100000 in
theorem ImageCounts_lifted (os : Go.Os) (started : os.Started) (H : Type) (enc : TypeId × Value → H) :
    ReturnsInHanded {} Try.checked os 5 .any (Rows.imageCountsSpec.pre6 enc Try.prog Try.f5 Rows.imageCountsRow.domain false) (Rows.imageCountsSpec.post enc Try.prog Try.f5 false true false false) := by
  refine returnsInHanded_of_change_sized (C := Try.checked) own0 started (by kernel_rfl) Try.func5
    (ChangeSpec.witness6 (enc := enc) (C := Try.checked) false ⟨#[], #[.agg #[.int .i64 0, .int .i64 0, .int .i64 0, .int .i64 0, .slice none 0 0, .slice none 0 0, .int .u8 0, .int .u8 0, .slice none 0 0, .slice none 0 0], .agg #[.int .i64 0, .int .i64 0, .int .i64 0, .int .i64 0, .slice none 0 0, .slice none 0 0, .int .u8 0, .int .u8 0, .slice none 0 0, .slice none 0 0], .slice none 0 0], []⟩ 8 (by kernel_rfl) (by kernel_rfl) (by kernel_rfl) (by kernel_rfl)) ?_
  intro W base args ds gs before hval0 hW hcnd hsz0 _
  have hsz : (DataW.weightsEach Try.prog (Try.f5.params.toList ++ Rows.imageCountsSpec.plain.varTypes Try.prog) (ds ++ gs)).all (· ≤ reachBytes) = true := hsz0
  have hval : ∀ (j : Nat) t v, Try.f5.params[j]? = some t → args[j]? = some v → Value.okWide Try.prog W .any base t v := hval0
  have hW' := hW
  obtain ⟨p, q, hA0, hV, rfl, hfz, hnd⟩ := hW
  obtain ⟨rfl, rfl⟩ := trodVars_none hV
  have hA : DataW.TrodAll enc Try.prog W 0 (fun _ => true) true Try.f5.params.toList args.toList ds p := hA0
  rw [Try.params5] at hA hval hsz
  obtain ⟨v0, v1, v2, d0, d1, d2, p0, p1, p2, rfl, rfl, rfl, h0, h1, h2⟩ := trodAll_three hA
  obtain ⟨m0, k0, _, w0⟩ := (Opens.sig W).arg (fun _ => by rw [Try.underlying40]; rfl) (hval 0 40 v0 rfl rfl) h0
  obtain ⟨m1, k1, _, w1⟩ := (Opens.sig W).arg (fun _ => by rw [Try.underlying40]; rfl) (hval 1 40 v1 rfl rfl) h1
  obtain ⟨m2, k2, _, w2⟩ := (Opens.bytes W).arg (fun _ => by rw [Try.underlying30]; rfl) (hval 2 30 v2 rfl rfl) h2
  have ok0 := w0 fun n hn => by
    have := List.all_eq_true.1 hsz n (DataW.weights_mem_each (j := 0) rfl rfl n hn)
    simpa using this
  have ok1 := w1 fun n hn => by
    have := List.all_eq_true.1 hsz n (DataW.weights_mem_each (j := 1) rfl rfl n hn)
    simpa using this
  refine (law_run (ks 12) (f := 5) (n := Try.f5.ntmps) (vs := [V.agg (Cr.v rapi_Sig m0.tup), V.agg (Cr.v rapi_Sig m1.tup), V.sl false false 1 (bytesV m2)]) (vals := [v0, v1, v2]) (by kernel_rfl) (Nat.le_of_ble_eq_true (by kernel_rfl)) (t_affiantlaw25_ImageCounts 12 (by decide) (m0.tup, m1.tup, bytesV m2) true (law_ImageCounts m0 m1 ok0 ok1 m2)) rfl (three_args (Q := fun v c => PRep W (All W) (All W) v c) k0 k1 k2)).mono fun e W' he => ?_
  obtain ⟨rfl, hb⟩ := he
  exact ⟨_, rfl, law_post laid0 (by kernel_rfl) rfl hW' rfl rfl Try.underlying4 hb⟩

theorem ImageCounts_holds : Rows.ImageCountsSaid :=
  OpenClaim.holds_of_wide 5 Try.f5 rfl rfl rfl rfl rfl rfl rfl ⟨rfl, rfl, rfl, rfl, rfl⟩ rfl rfl rfl rfl rfl (by kernel_rfl) Try.func5 (by kernel_rfl)
    (of_decide_eq_true (by kernel_rfl)) (by unfold Func.isWrapper; first | (rw [if_pos (by decide +kernel)]; kernel_rfl) | (rw [if_neg (by decide +kernel)]; exact ⟨rfl, rfl⟩))
    (fun os started H enc _ => ImageCounts_lifted os started H enc)
end Go.Proofs.Ytffofdfikmpanaa.A

namespace Go.Proofs.Ytffofdfikmpanaa.A
open Go Go.Proofs Go.ChangeShapes Go.WideShapes Go.ChangeAt Go.RowKit
set_option linter.unusedVariables false
set_option linter.unusedSimpArgs false

set_option maxRecDepth 100000 in
theorem ImageText_lifted (os : Go.Os) (started : os.Started) (H : Type) (enc : TypeId × Value → H) :
    ReturnsInHanded {} Try.checked os 6 .any (Rows.imageTextSpec.pre6 enc Try.prog Try.f6 Rows.imageTextRow.domain false) (Rows.imageTextSpec.post enc Try.prog Try.f6 false true false false) := by
  refine returnsInHanded_of_change_sized (C := Try.checked) own0 started (by kernel_rfl) Try.func6
    (ChangeSpec.witness6 (enc := enc) (C := Try.checked) false ⟨#[], #[.agg #[.int .i64 0, .int .i64 0, .int .i64 0, .int .i64 0, .slice none 0 0, .slice none 0 0, .int .u8 0, .int .u8 0, .slice none 0 0, .slice none 0 0], .slice none 0 0], []⟩ 8 (by kernel_rfl) (by kernel_rfl) (by kernel_rfl) (by kernel_rfl)) ?_
  intro W base args ds gs before hval0 hW hcnd hsz0 _
  have hsz : (DataW.weightsEach Try.prog (Try.f6.params.toList ++ Rows.imageTextSpec.plain.varTypes Try.prog) (ds ++ gs)).all (· ≤ reachBytes) = true := hsz0
  have hval : ∀ (j : Nat) t v, Try.f6.params[j]? = some t → args[j]? = some v → Value.okWide Try.prog W .any base t v := hval0
  have hW' := hW
  obtain ⟨p, q, hA0, hV, rfl, hfz, hnd⟩ := hW
  obtain ⟨rfl, rfl⟩ := trodVars_none hV
  have hA : DataW.TrodAll enc Try.prog W 0 (fun _ => true) true Try.f6.params.toList args.toList ds p := hA0
  rw [Try.params6] at hA hval hsz
  obtain ⟨v0, v1, d0, d1, p0, p1, rfl, rfl, _, h0, h1⟩ := trodAll_two hA
  obtain ⟨m0, k0, _, w0⟩ := (Opens.sig W).arg (fun _ => by rw [Try.underlying40]; rfl) (hval 0 40 v0 rfl rfl) h0
  obtain ⟨m1, k1, _, w1⟩ := (Opens.bytes W).arg (fun _ => by rw [Try.underlying30]; rfl) (hval 1 30 v1 rfl rfl) h1
  have ok0 := w0 fun n hn => by
    have := List.all_eq_true.1 hsz n (DataW.weights_mem_each (j := 0) rfl rfl n hn)
    simpa using this
  refine (law_run (ks 12) (f := 6) (n := Try.f6.ntmps) (vs := [V.agg (Cr.v rapi_Sig m0.tup), V.sl false false 1 (bytesV m1)]) (vals := [v0, v1]) (by kernel_rfl) (Nat.le_of_ble_eq_true (by kernel_rfl)) (t_affiantlaw25_ImageText 12 (by decide) (m0.tup, bytesV m1) true (law_ImageText m0 ok0 m1)) rfl (two_args (Q := fun v c => PRep W (All W) (All W) v c) k0 k1)).mono fun e W' he => ?_
  obtain ⟨rfl, hb⟩ := he
  exact ⟨_, rfl, law_post laid0 (by kernel_rfl) rfl hW' rfl rfl Try.underlying4 hb⟩

theorem ImageText_holds : Rows.ImageTextSaid :=
  OpenClaim.holds_of_wide 6 Try.f6 rfl rfl rfl rfl rfl rfl rfl ⟨rfl, rfl, rfl, rfl, rfl⟩ rfl rfl rfl rfl rfl (by kernel_rfl) Try.func6 (by kernel_rfl)
    (of_decide_eq_true (by kernel_rfl)) (by unfold Func.isWrapper; first | (rw [if_pos (by decide +kernel)]; kernel_rfl) | (rw [if_neg (by decide +kernel)]; exact ⟨rfl, rfl⟩))
    (fun os started H enc _ => ImageText_lifted os started H enc)
end Go.Proofs.Ytffofdfikmpanaa.A
