/- The law's row, closed. Conditions: none. -/
import Derived.Test.YtffofdfikmpanaaLD
import Derived.Test.YtffofdfikmpanaaChecked
import Derived.RangeFuncKeeps
import Derived.TacticsInMore
import Derived.OwnWalkIn
import Derived.LoopNIn
import Derived.LoopIn
import Derived.Test.YtffofdfikmpanaaLE
import Derived.Shelf.Spec.BitsCarry
import Derived.Test.YtffofdfikmpanaaG1
import Derived.SizedLaws
import Derived.Test.YtffofdfikmpanaaPR
set_option linter.unusedVariables false
set_option linter.unusedSimpArgs false
set_option linter.constructorNameAsVariable false
set_option linter.unusedSectionVars false
namespace Go.Proofs.Ytffofdfikmpanaa.A
open Go Go.Proofs Go.RowKit
set_option linter.unusedVariables false
set_option linter.unusedSimpArgs false
attribute [local go_sem] Oper.semAt_some
def downC (xs : Nat → Int) (n : Nat) : List (List Value) := (List.range n).reverse.map fun (i : Nat) => [Value.int .i64 (i : Int), Value.int .u32 (xs i)]
theorem downC_get (xs : Nat → Int) (n k : Nat) (h : k < n) : (downC xs n)[k]? = some [Value.int .i64 ((n - 1 - k : Nat) : Int), Value.int .u32 (xs (n - 1 - k))] := by
  unfold downC
  rw [List.getElem?_map, List.getElem?_reverse (by simpa using h)]
  simp [show n - 1 - k < n by omega]
theorem downC_length (xs : Nat → Int) (n : Nat) : (downC xs n).length = n := by simp [downC]
set_option maxRecDepth 100000 in
set_option maxHeartbeats 1000000 in
theorem down_iter {w : World} {Z : Nat → Prop} {b off : Nat} {ad : Option Addr} {n cap : Nat} {xs : Nat → Int} (hn : n ≤ 4611686018427387904) (hb : Z b) (hc : w.cell? ⟨b, off, none⟩ = some (.slice ad n cap))
    (he : ∀ i, i < n → ∃ a2 o2, ad = some ⟨a2, o2, none⟩ ∧ Z a2 ∧ w.cell? ⟨a2, o2 + i, none⟩ = some (.int .u32 (xs i))) :
    Iterates Try.prog 146 [.pointer (some ⟨b, off, none⟩)] (downC xs n) w Z := by
  intro l J Jx W hW hJ hJx hK hY h0
  have cellK : ∀ {k : Nat} {W1 : World} {b o : Nat}, J k W1 → Z b → W1.cell? ⟨b, o, none⟩ = w.cell? ⟨b, o, none⟩ := fun {k W1 b o} hj hz => World.cell?_of_block (w := w) ((hK k W1 hj).2 b hz)
  refine callsIn_of_wp Try.func146 rfl trivial ?_ rfl
  simp only [Try.ntmps146, List.size_toArray, List.length_cons, List.length_nil, Nat.reduceAdd, Nat.reduceSub, Array.replicate_succ, Array.replicate_zero, List.push_toArray, List.append_toArray, List.nil_append, List.cons_append]
  have hc0 := (cellK (b := b) (o := off) h0 hb).trans hc
  gi_wp2
  gi_loopw [3] (fun p wr => ∃ k : Nat, k ≤ n ∧ p = .int .i64 ((n : Int) - 1 - k) ∧ J k wr) (fun p (wr : World) => match p with | .int _ i => (i + 1).toNat | _ => 0)
  case atStart =>
    exact ⟨0, Nat.zero_le _, by simp, h0⟩
  case round =>
    obtain ⟨k, hk, rfl, hj⟩ := hrel
    have hc1 := (cellK (b := b) (o := off) hj hb).trans hc
    by_cases hkn : k < n
    · obtain ⟨a2, o2, rfl, hz2, hc2⟩ := he (n - 1 - k) (by omega)
      have hc3 := (cellK (b := a2) (o := o2 + (n - 1 - k)) hj hz2).trans hc2
      have hix : ((n : Int) - 1 - (k : Int)) = ((n - 1 - k : Nat) : Int) := by omega
      rw [hix]
      obtain ⟨fn, tmps, assign, body, hy, hR⟩ := hY k _ wr (downC_get xs n k hkn) hj
      gi_wp2
      refine ⟨rfl, hR.mono ?_⟩
      rintro e W3 (⟨rfl, hJ3⟩ | ⟨rfl, hJx3⟩)
      · gi_wp2
        go_roundw
        case rel => exact ⟨k + 1, by omega, by congr 1; omega, hJ3⟩
        case measure => simp
      · gi_wp2
        refine bodyPost_ret (results_none rfl _ _ _) rfl ?_
        exact ⟨⟨_, rfl⟩, .inr hJx3⟩
    · have : k = n := by omega
      subst this
      have hix : ((k : Int) - 1 - (k : Int)) = -1 := by omega
      rw [hix]
      gi_wp2
      go_end0
      exact ⟨⟨_, rfl⟩, .inl (by rw [downC_length]; exact hj)⟩
def intOf : V → Int
  | .int _ n => n
  | _ => 0
theorem down_sound {sn sn' ex : Bool} {sz : Nat} {es : List V} {items : List (List V)} (hi : downItems .u32 es = some items) {w : World} {Z : Nat → Prop} {vs : List Value} (hl : vs.length = 1)
    (hrep : ∀ (i : Nat) (v : V) (c : Value), [V.ref sn [.sl sn' ex sz es]][i]? = some v → vs[i]? = some c → PRep w Z Z v c) :
    ∃ encs : List (List Value), encs.length = items.length ∧ (∀ (i : Nat) (x : List V) (e : List Value), items[i]? = some x → encs[i]? = some e → e.length = x.length ∧ ∀ (k : Nat) (v : V) (c : Value), x[k]? = some v → e[k]? = some c → PRep w (fun _ => False) Z v c) ∧
      Iterates Try.prog 146 vs encs w Z := by
  obtain ⟨c, rfl⟩ := List.length_eq_one_iff.1 hl
  have hr := hrep 0 _ c rfl rfl
  unfold downItems at hi
  split at hi
  · rename_i hh
    rw [Bool.and_eq_true, decide_eq_true_eq] at hh
    obtain ⟨hlen, hall⟩ := hh
    cases hi
    have hint : ∀ (i : Nat) (v : V), es[i]? = some v → v = V.int .u32 (intOf v) := fun i v hv => by
      have := List.all_eq_true.1 hall v (List.mem_of_getElem? hv)
      cases v <;> simp [V.isInt] at this
      subst this; rfl
    refine ⟨downC (fun i => intOf ((es[i]?).getD .nilp)) es.length, by simp [downC], ?_, ?_⟩
    · intro i x e hx he
      have hi : i < es.length := by have := (List.getElem?_eq_some_iff.1 he).1; rwa [downC_length] at this
      rw [downC_get _ _ _ hi] at he
      cases he
      rw [List.getElem?_map, List.getElem?_reverse (by simpa using hi)] at hx
      simp [show es.length - 1 - i < es.length by omega] at hx
      subst hx
      refine ⟨rfl, fun k v c hk hc => ?_⟩
      match k with
      | 0 => cases hk; cases hc; exact .int _ _
      | 1 =>
        cases hk; cases hc
        have hg : es[es.length - 1 - i]? = some es[es.length - 1 - i] := List.getElem?_eq_getElem (by omega)
        have := hint _ _ hg
        simp only [hg, Option.getD_some]
        rw [this]
        exact .int _ _
      | k + 2 => simp at hk
    · cases hr with
      | ref _ _ b off hz h1 hd h =>
        have hzb : Z b := by cases sn <;> exact hz
        obtain ⟨c0, hc0⟩ := hd 0 _ rfl
        have hs := h 0 _ c0 rfl hc0
        rw [Nat.add_zero] at hc0
        have hs' : PRep w Z Z (.sl sn' ex sz es) c0 := by cases sn <;> exact hs
        generalize hes : es = es' at hs'
        cases hs' with
        | sl0 _ _ _ a cap he => exact down_iter (by simp) hzb hc0 fun i hi => absurd hi (by simp)
        | sl _ _ _ _ b2 off2 cap he hc hz2 hcl h1' hd2 h2 =>
          subst hes
          refine down_iter hlen hzb hc0 fun i hi => ?_
          have hg : es[i]? = some es[i] := List.getElem?_eq_getElem hi
          have hv := hint _ _ hg
          have hcells : (es[i]).cells = [es[i]] := by rw [hv]; rfl
          have hsz : sz = 1 := by have := hcl i _ hg; rw [hcells] at this; simpa using this.symm
          subst hsz
          obtain ⟨c1, hc1⟩ := hd2 i 0 _ (es[i]) hg (by rw [hcells]; rfl)
          have hp := h2 i 0 _ (es[i]) c1 hg (by rw [hcells]; rfl) hc1
          refine ⟨b2, off2, rfl, by cases sn' <;> exact hz2, ?_⟩
          rw [Nat.mul_one, Nat.add_zero] at hc1
          rw [hc1, hg, Option.getD_some]
          rw [hv] at hp
          cases hp
          rfl
  · cases hi
end Go.Proofs.Ytffofdfikmpanaa.A
namespace Go.Proofs.Ytffofdfikmpanaa.A
open Go Go.Proofs Go.RowKit
set_option linter.unusedVariables false
set_option linter.unusedSimpArgs false
attribute [local go_sem] Oper.semAt_some
set_option maxRecDepth 100000 in
set_option maxHeartbeats 1000000 in
theorem clone_nil (w : World) (cap : Nat) : CallsIn Fence.wide 0 Try.prog 51 #[.slice none 0 cap] w fun e w' => e = .returned (.slice none 0 0) ∧ w' = w := by
  refine callsIn_of_wp Try.func51 rfl trivial ?_ rfl
  simp only [Try.ntmps51, List.size_toArray, List.length_cons, List.length_nil, Nat.reduceAdd, Nat.reduceSub, Array.replicate_succ, Array.replicate_zero, List.push_toArray, List.append_toArray, List.nil_append, List.cons_append]
  have hb : (binOp BinOp.eql 30 (.slice none 0 cap) (.slice none 0 0)).run Try.prog w = .ok (.bool true) w := by rfl
  gi_wp2
  go_ret
  exact ⟨rfl, rfl⟩
set_option maxRecDepth 100000 in
set_option maxHeartbeats 1000000 in
theorem clone_empty (w : World) (ad : Addr) (cap : Nat) : CallsIn Fence.wide 0 Try.prog 51 #[.slice (some ad) 0 cap] w fun e w' => ∃ ad', e = .returned (.slice ad' 0 0) ∧ Turns w w' (fun _ => False) := by
  refine callsIn_of_wp Try.func51 rfl trivial ?_ rfl
  simp only [Try.ntmps51, List.size_toArray, List.length_cons, List.length_nil, Nat.reduceAdd, Nat.reduceSub, Array.replicate_succ, Array.replicate_zero, List.push_toArray, List.append_toArray, List.nil_append, List.cons_append]
  have hb : (binOp BinOp.eql 30 (.slice (some ad) 0 cap) (.slice none 0 0)).run Try.prog w = .ok (.bool false) w := by rfl
  gi_wp2
  go_ret
  exact ⟨_, rfl, ⟨rfl, rfl, rfl, by simp, fun b hb _ => RowKit.Below.heap_alloc _ _ _ hb⟩⟩
def K0n : Oracle := fun _ _ => none
theorem K0n_sound : KSound Try.prog K0n := fun f args r outs n h => by simp [K0n] at h
theorem clone_rel {w w' : World} {X : Nat → Prop} {g : Value} {F : Nat → Nat → Prop} {sl : List S} {cv : List Value} (R : Rel Try.prog w X sl cv F) (ht : Turns w w' (fun _ => False)) (ad : Option Addr) (hc : Try.prog.cellsOf 5 ≠ 0) :
    Rel Try.prog w' X [.t (.own 5 []), .t .dead] [.slice ad 0 0, g] (fun _ _ => False) ∧ To w F w' (fun _ _ => False) :=
  ⟨⟨rfl, fun _ _ h => h.elim, fun _ _ _ h => h.elim, fun _ _ h => h.elim, fun b hb => Nat.lt_of_lt_of_le (R.xlt b hb) ht.size, fun i s c hs hc' => by
    match i with
    | 0 => cases hs; cases hc'; exact .own0 none 5 ad _ (fun _ h => h) fun h => absurd h hc
    | 1 => cases hs; cases hc'; exact .dead none _ _ fun _ h => h
    | i + 2 => simp at hs⟩, ⟨fun i b h => h.elim, ht.mono fun _ h => h.elim⟩⟩
def cloneTold : List Arg → Option (T × List T) := fun args => match args with
  | [.v (.sl true false 1 es)] => if es.length ≤ 2147483648 then some (.own 5 es, [.dead]) else none
  | _ => none
noncomputable def HC : Hints := { ht := fun f => match Try.prog.funcs[f]? with | some fn => funcHTz [] fn | none => .z, give := fun f d => f == 51 && d == 2 }
theorem clone_run (a : V) (r : List V) (h : (a :: r).length ≤ 2147483648) : runF Try.prog K0n HC 51 [.v (.sl true false 1 (a :: r))] = some (.own 5 (a :: r), [.dead]) := by
  have e : evF Try.prog (spOf []) HC {} 51 [.v (.sl true false 1 (a :: r))] (T × List T) (fun t o => some (t, o)) = if 0 + (a :: r).length ≤ 2147483648 then some (.own 5 (a :: r), [.dead]) else none := by kernel_rfl
  rw [if_pos (by omega)] at e
  obtain ⟨t, o, h1, h2⟩ := evF_ok (K := K0n) (spOk (by simp)) e
  cases h2
  exact h1
theorem HC_same : HSound Try.prog HC := noNative fun _ => rfl
theorem HC_iter : ISound Try.prog HC := noIter fun f caps => rfl
theorem HC_iterO : IOSound Try.prog HC := noIterO fun f x => rfl
theorem clone_sound (hm : Try.prog.follows .mixedOrders = true) {args : List Arg} {r : T} {outs : List T} {n : Nat} (h : cloneTold args = some (r, outs)) (hsl : slotsOf Try.prog 51 = some n) (hle : args.length ≤ n) :
    r.stab = true ∧ (∀ x ∈ outs, x = .dead ∨ x.stab = true) ∧
    ∀ (w : World) (X : Nat → Prop) (vals gs : List Value) (F : Nat → Nat → Prop), vals.length = args.length → gs.length = args.length →
      Rel Try.prog w X (frame n args) (vals ++ List.replicate (n - args.length) undef ++ gs) F →
      Calls Try.prog 51 vals.toArray w fun e w' => ∃ c F', e = .returned c ∧ Rel Try.prog w' X (.t r :: outs.map .t) (c :: gs) F' ∧ To w F w' F' := by
  unfold cloneTold at h
  split at h
  · rename_i es
    split at h
    · rename_i hlen
      cases h
      cases es with
      | cons a r => exact runF_sound hm K0n_sound HC_same HC_iter HC_iterO (clone_run a r hlen) hsl hle
      | nil =>
        refine ⟨rfl, by simp, fun w X vals gs F hvl hgl R => ?_⟩
        obtain ⟨c0, rfl⟩ := List.length_eq_one_iff.1 hvl
        obtain ⟨g, rfl⟩ := List.length_eq_one_iff.1 hgl
        have h0 : TRep Try.prog w _ _ none (.p (.sl true false 1 [])) c0 (F 0) := R.slot 0 (.t (.p (.sl true false 1 []))) c0 rfl rfl
        have hs : ∃ ad cap, c0 = .slice ad 0 cap := by
          cases h0 with
          | p me v c F hp hF =>
            cases hp with
            | sl0 _ _ _ a cap he => exact ⟨a, cap, rfl⟩
            | sl _ _ _ _ b off cap => exact ⟨_, cap, rfl⟩
        obtain ⟨ad, cap, rfl⟩ := hs
        cases ad with
        | none =>
          refine ((callsIn_wide (n := 0)).1 (clone_nil w cap)).mono fun e w' he => ?_
          obtain ⟨rfl, rfl⟩ := he
          obtain ⟨R', t'⟩ := clone_rel (g := g) R (Turns.refl _ _) none (by rw [show Try.prog.cellsOf 5 = 1 from by kernel_rfl]; decide)
          exact ⟨_, _, rfl, R', t'⟩
        | some ad =>
          refine ((callsIn_wide (n := 0)).1 (clone_empty w ad cap)).mono fun e w' he => ?_
          obtain ⟨ad', rfl, ht⟩ := he
          obtain ⟨R', t'⟩ := clone_rel (g := g) R ht ad' (by rw [show Try.prog.cellsOf 5 = 1 from by kernel_rfl]; decide)
          exact ⟨_, _, rfl, R', t'⟩
    · cases h
  · cases h
end Go.Proofs.Ytffofdfikmpanaa.A
namespace Go.Proofs.Ytffofdfikmpanaa.A
open Go Go.Proofs Go.RowKit
set_option linter.unusedVariables false
set_option linter.unusedSimpArgs false
theorem run_add (x y z : Int) (hx : 0 ≤ x) (hy : 0 ≤ y) (hz0 : 0 ≤ z) (hz : z ≤ 1) (w : World) :
    (callFunc 148 #[.int .u64 x, .int .u64 y, .int .u64 z]).run Try.prog w = .ok (.value (.tuple #[.int .u64 (adc x y z), .int .u64 (adcC x y z)])) w := by
  rw [run_callFunc_extern Try.func148 (by kernel_rfl) (by kernel_rfl) (by kernel_rfl) (e := add64Entry) (by kernel_rfl), run_add64 x y z hx hy hz0 hz]
  rfl
theorem run_sub (x y z : Int) (hx : 0 ≤ x) (hy : 0 ≤ y) (hy2 : y < 18446744073709551616) (hz0 : 0 ≤ z) (hz : z ≤ 1) (w : World) :
    (callFunc 147 #[.int .u64 x, .int .u64 y, .int .u64 z]).run Try.prog w = .ok (.value (.tuple #[.int .u64 (sbb x y z), .int .u64 (sbbC x y z)])) w := by
  obtain ⟨X, rfl⟩ := Int.eq_ofNat_of_zero_le hx
  obtain ⟨Y, rfl⟩ := Int.eq_ofNat_of_zero_le hy
  obtain ⟨Z, rfl⟩ := Int.eq_ofNat_of_zero_le hz0
  rw [run_callFunc_extern Try.func147 (by kernel_rfl) (by kernel_rfl) (by kernel_rfl) (e := sub64Entry) (by kernel_rfl), run_sub64 X Y Z (by omega)]
  have e1 : (((X + 18446744073709551616 - Y - Z) % 18446744073709551616 : Nat) : Int) = sbb X Y Z := by unfold sbb; omega
  have e2 : ((if X < Y + Z then 1 else 0 : Nat) : Int) = sbbC X Y Z := by unfold sbbC; split <;> split <;> omega
  rw [← e1, ← e2]; rfl
theorem native_sound {H : Hints} (hs : ∀ f, H.same f = [148, 147].contains f) (h1 : H.nat 148 = 1) (h2 : H.nat 147 = 2) : HSound Try.prog H := by
  intro f hf
  rw [hs f] at hf
  have hm : f = 148 ∨ f = 147 := by simpa using hf
  rcases hm with rfl | rfl
  · refine ⟨fun h => (by rw [h1] at h; cases h), fun x y z a b hc w => ?_⟩
    rw [h1] at hc
    unfold carryV at hc
    simp only [if_true] at hc
    split at hc
    · rename_i hh
      simp only [Option.some.injEq, T.tup.injEq, List.cons.injEq, T.p.injEq, V.int.injEq, true_and, and_true] at hc
      obtain ⟨rfl, rfl⟩ := hc
      exact run_add x y z hh.1 hh.2.1 hh.2.2.1 hh.2.2.2 w
    · cases hc
  · refine ⟨fun h => (by rw [h2] at h; cases h), fun x y z a b hc w => ?_⟩
    rw [h2] at hc
    unfold carryV at hc
    simp only [show ¬ ((2 : Nat) = 1) by decide, if_false, if_true] at hc
    split at hc
    · rename_i hh
      simp only [Option.some.injEq, T.tup.injEq, List.cons.injEq, T.p.injEq, V.int.injEq, true_and, and_true] at hc
      obtain ⟨rfl, rfl⟩ := hc
      exact run_sub x y z hh.1 hh.2.1 hh.2.2.1 hh.2.2.2.1 hh.2.2.2.2 w
    · cases hc
end Go.Proofs.Ytffofdfikmpanaa.A
namespace Go.Proofs.Ytffofdfikmpanaa.A
open Go Go.Proofs Go.ChangeShapes Go.WideShapes Go.ChangeAt Go.RowKit
set_option linter.unusedVariables false
set_option linter.unusedSimpArgs false
theorem own0 : ownKnob Try.prog.godebug = none := by kernel_rfl
theorem laid0 : laidOutB Try.prog = true := by kernel_rfl
theorem mixed0 : Try.prog.follows .mixedOrders = true := by kernel_rfl
theorem same0 : HSound Try.prog HH := native_sound (fun _ => rfl) rfl rfl
theorem iter0 : ISound Try.prog HH := by
  intro f caps items hi w Z vs hvl hZ hrep
  have key : ∀ f caps, HH.iter f caps = (match f, caps with | 146, [.ref _ [.sl _ _ _ es]] => downItems .u32 es | _, _ => none) := fun _ _ => rfl
  rw [key] at hi
  split at hi
  · exact down_sound hi hvl hrep
  · cases hi
set_option maxRecDepth 100000 in
theorem told0 : KSound Try.prog (fun f args => match HSP f with | some g => g args | none => none) := by
  intro f args r outs n h hsl hle
  by_cases hf : f = 51
  · subst hf
    exact clone_sound mixed0 h hsl hle
  · have key : ∀ f, HSP f = (match f with | 51 => some cloneTold | _ => none) := fun _ => rfl
    have h : (match HSP f with | some g => g args | none => none) = some (r, outs) := h
    rw [key] at h
    split at h
    · rename_i h2
      split at h2
      · contradiction
      · cases h2
    · cases h
theorem iterO0 : IOSound Try.prog HH := by
  intro f x items hi w Zs Zx c Fg hT hsx hZ hF
  cases hi
theorem ks (n : Nat) : KSound Try.prog (callN Try.prog HH HSP n) := callN_sound mixed0 same0 iter0 iterO0 told0 n
theorem PRep.snap {w : World} {Z : Nat → Prop} {ex : Bool} {sz : Nat} {es : List V} {c : Value} (h : PRep w Z Z (.sl false ex sz es) c) : PRep w Z Z (.sl true ex sz es) c := by
  cases h with
  | sl0 _ _ _ a cap he => exact .sl0 _ _ _ a cap he
  | sl _ _ _ _ b off cap he hc hz hcl h1 hd h => exact .sl _ _ _ _ b off cap he hc hz hcl h1 hd h
theorem Opens.to {P : Program} {w : World} {t : TypeId} {α β : Type} {El : α → V} {bk : α → Nat} {fine : α → Prop} {El' : β → V} {fine' : β → Prop} (h : Opens P w t El bk fine)
    (hx : ∀ x, ∃ y, El x = El' y ∧ (fine x → fine' y)) : Opens P w t El' (fun _ => 0) fine' := ⟨fun {H enc fuel cs d ps} hr => by
  obtain ⟨x, h1, _, h3⟩ := h.run hr
  obtain ⟨y, h4, h5⟩ := hx x
  exact ⟨y, by rw [← h4]; exact h1, Nat.zero_le _, fun hw => h5 (h3 hw)⟩⟩
theorem flat_bytes (l : List UInt8) : (l.flatMap fun x => (byteV x).cells) = bytesV l := by
  induction l with
  | nil => rfl
  | cons b l ih => rw [List.flatMap_cons, ih]; rfl
theorem reach_le : reachBytes ≤ 1000000000000000 := by decide
theorem cellsByte : Try.prog.cellsOf 5 = 1 := by kernel_rfl
theorem Opens.bytes (W : World) : Opens Try.prog W 30 (fun l : List UInt8 => V.sl false false 1 (bytesV l)) (fun _ => 0) (fun l => l.length ≤ 1000000000000000) :=
  (Opens.slice (P := Try.prog) (w := W) Try.underlying30 (by decide +kernel) (Opens.byte Try.underlying5)).to fun x => ⟨x, by rw [cellsByte]; rfl, fun h => Nat.le_trans h.1 reach_le⟩
theorem two_args {Q : V → Value → Prop} {a b : V} {x y : Value} (h0 : Q a x) (h1 : Q b y) : ∀ (i : Nat) (v : V) (w : Value), [a, b][i]? = some v → [x, y][i]? = some w → Q v w
  | 0, v, w, hv, hc => by cases hv; cases hc; exact h0
  | 1, v, w, hv, hc => by cases hv; cases hc; exact h1
  | n + 2, v, w, hv, hc => by simp at hv
end Go.Proofs.Ytffofdfikmpanaa.A
namespace Go.Proofs.Ytffofdfikmpanaa.A
open Go Go.Proofs Go.ChangeShapes Go.WideShapes Go.ChangeAt Go.RowKit
set_option linter.unusedVariables false
set_option linter.unusedSimpArgs false
theorem u32_nats (l : List (intIn .u32)) : ∃ m : List Nat, isW m ∧ m.length = l.length ∧ (l.map fun x : intIn .u32 => V.int .u32 x.1) = numV .u32 m := by
  refine ⟨l.map fun x => x.1.toNat, ?_, by simp, ?_⟩
  · intro d hd
    obtain ⟨⟨x, h1, h2⟩, _, rfl⟩ := List.mem_map.1 hd
    have h2' : x ≤ 4294967295 := by simpa [IntKind.max, IntKind.signed, IntKind.bits] using h2
    show x.toNat < 4294967296
    omega
  · unfold numV
    rw [List.map_map]
    refine List.map_congr_left fun x _ => ?_
    obtain ⟨x, h1, h2⟩ := x
    have h1' : 0 ≤ x := by simpa [IntKind.min, IntKind.signed] using h1
    simp only [Function.comp]
    rw [Int.toNat_of_nonneg h1']
theorem cellsU32 : Try.prog.cellsOf 22 = 1 := by kernel_rfl
theorem Opens.key (W : World) : Opens Try.prog W 27 (fun k : KeyM => V.agg (Cr.v rapi_Key k.tup)) (fun _ => 0) (fun k => k.Ok0) :=
  (Opens.struct (P := Try.prog) (w := W) Try.underlying27 (by kernel_rfl) (by kernel_rfl)
    (OpensRow.cons (Opens.int Try.underlying3) (OpensRow.cons (Opens.int Try.underlying22) (OpensRow.cons (Opens.int Try.underlying3) (OpensRow.cons (Opens.slice Try.underlying24 (by decide +kernel) (Opens.int Try.underlying22))
    (OpensRow.cons (Opens.slice Try.underlying24 (by decide +kernel) (Opens.int Try.underlying22)) (OpensRow.cons (Opens.array Try.underlying25 (by kernel_rfl) (Opens.byte Try.underlying5)) OpensRow.nil))))))).to fun x => by
  obtain ⟨⟨v, hv1, hv2⟩, ⟨c, hc1, hc2⟩, ⟨a, ha1, ha2⟩, n, e, ⟨p, hp⟩, _⟩ := x
  obtain ⟨n', hn, _, en⟩ := u32_nats n
  obtain ⟨e', he, _, ee⟩ := u32_nats e
  have hc1' : 0 ≤ c := by simpa [IntKind.min, IntKind.signed] using hc1
  have hc2' : c ≤ 4294967295 := by simpa [IntKind.max, IntKind.signed, IntKind.bits] using hc2
  refine ⟨⟨v, c.toNat, a, n', e', p⟩, ?_, fun _ => ⟨by simpa [IntKind.min, IntKind.signed, IntKind.bits] using hv1, by simpa [IntKind.max, IntKind.signed, IntKind.bits] using hv2, by simp only; omega,
    by simpa [IntKind.min, IntKind.signed, IntKind.bits] using ha1, by simpa [IntKind.max, IntKind.signed, IntKind.bits] using ha2, hn, he, hp⟩⟩
  dsimp only
  rw [en, ee, flat_bytes, cellsU32]
  simp only [KeyM.tup, Cr.v, Cc.v, V.cells, arrV_intB hp, Int.toNat_of_nonneg hc1', List.append_nil, List.cons_append, List.nil_append]
end Go.Proofs.Ytffofdfikmpanaa.A
namespace Go.Proofs.Ytffofdfikmpanaa.A
open Go Go.Proofs Go.ChangeShapes Go.WideShapes Go.ChangeAt Go.RowKit
set_option linter.unusedVariables false
set_option linter.unusedSimpArgs false
set_option maxHeartbeats 4000000 in
set_option maxRecDepth 100000 in
theorem KeyCheck_lifted (os : Go.Os) (started : os.Started) (H : Type) (enc : TypeId × Value → H) :
    ReturnsInHanded {} Try.checked os 7 .any (Rows.keyCheckSpec.pre6 enc Try.prog Try.f7 Rows.keyCheckRow.domain false) (Rows.keyCheckSpec.post enc Try.prog Try.f7 false true false false) := by
  refine returnsInHanded_of_change_sized (C := Try.checked) own0 started (by kernel_rfl) Try.func7
    (ChangeSpec.witness6 (enc := enc) (C := Try.checked) false ⟨#[], #[.agg (#[.int .i64 0, .int .u32 0, .int .i64 0, .slice none 0 0, .slice none 0 0] ++ Array.replicate 32 (.int .u8 0)), .agg (#[.int .i64 0, .int .u32 0, .int .i64 0, .slice none 0 0, .slice none 0 0] ++ Array.replicate 32 (.int .u8 0))], []⟩ 8 (by kernel_rfl) (by kernel_rfl) (by kernel_rfl) (by kernel_rfl)) ?_
  intro W base args ds gs before hval0 hW hcnd hsz0 _
  have hsz : (DataW.weightsEach Try.prog (Try.f7.params.toList ++ Rows.keyCheckSpec.plain.varTypes Try.prog) (ds ++ gs)).all (· ≤ reachBytes) = true := hsz0
  have hval : ∀ (j : Nat) t v, Try.f7.params[j]? = some t → args[j]? = some v → Value.okWide Try.prog W .any base t v := hval0
  have hW' := hW
  obtain ⟨p, q, hA0, hV, rfl, hfz, hnd⟩ := hW
  obtain ⟨rfl, rfl⟩ := trodVars_none hV
  have hA : DataW.TrodAll enc Try.prog W 0 (fun _ => true) true Try.f7.params.toList args.toList ds p := hA0
  rw [Try.params7] at hA hval hsz
  obtain ⟨v0, v1, d0, d1, p0, p1, rfl, rfl, _, h0, h1⟩ := trodAll_two hA
  obtain ⟨m0, k0, _, w0⟩ := (Opens.key W).arg (fun _ => by rw [Try.underlying27]; rfl) (hval 0 27 v0 rfl rfl) h0
  obtain ⟨m1, k1, _, w1⟩ := (Opens.key W).arg (fun _ => by rw [Try.underlying27]; rfl) (hval 1 27 v1 rfl rfl) h1
  have ok0 := w0 fun n hn => by
    have := List.all_eq_true.1 hsz n (DataW.weights_mem_each (j := 0) rfl rfl n hn)
    simpa using this
  have ok1 := w1 fun n hn => by
    have := List.all_eq_true.1 hsz n (DataW.weights_mem_each (j := 1) rfl rfl n hn)
    simpa using this
  refine (law_run (ks 20) (f := 7) (n := Try.f7.ntmps) (vs := [V.agg (Cr.v rapi_Key m0.tup), V.agg (Cr.v rapi_Key m1.tup)]) (vals := [v0, v1]) (by kernel_rfl) (Nat.le_of_ble_eq_true (by kernel_rfl)) (t_affiantlaw23_KeyCheck 20 (by decide) (m0.tup, m1.tup) true (law_KeyCheck m0 m1 ok0 ok1)) rfl (two_args (Q := fun v c => PRep W (All W) (All W) v c) k0 k1)).mono fun e W' he => ?_
  obtain ⟨rfl, hb⟩ := he
  exact ⟨_, rfl, law_post laid0 (by kernel_rfl) rfl hW' rfl rfl Try.underlying4 hb⟩
theorem KeyCheck_holds : Rows.KeyCheckSaid :=
  OpenClaim.holds_of_wide 7 Try.f7 rfl rfl rfl rfl rfl rfl rfl ⟨rfl, rfl, rfl, rfl, rfl⟩ rfl rfl rfl rfl rfl (by kernel_rfl) Try.func7 (by kernel_rfl)
    (of_decide_eq_true (by kernel_rfl)) (by unfold Func.isWrapper; first | (rw [if_pos (by decide +kernel)]; kernel_rfl) | (rw [if_neg (by decide +kernel)]; exact ⟨rfl, rfl⟩))
    (fun os started H enc _ => KeyCheck_lifted os started H enc)
end Go.Proofs.Ytffofdfikmpanaa.A
