/- The layer A, part 1: values, trees and slots for the model's values, and the operations that only look. Conditions: none. -/
import Derived.WalkKit
import Derived.LoadGo2
set_option linter.unusedVariables false
set_option linter.unusedSimpArgs false
set_option linter.constructorNameAsVariable false
set_option linter.unusedSectionVars false
namespace Go.Proofs.Ytffofdfikmpanaa.A
set_option linter.unusedVariables false
inductive V where
  | bool (b : Bool)
  | int (k : IntKind) (n : Int)
  | str (s : List UInt8)
  | nilp
  | anyp
  | nilf
  | nili
  | agg (cs : List V)
  | sl (snap exact : Bool) (sz : Nat) (es : List V)
  | ref (snap : Bool) (cs : List V)
  | fn (snap : Bool) (f : FuncId) (caps : List V)
  | ifc (t : TypeId) (v : V)
  | lenO (n : Nat)
  deriving Inhabited
def V.cells : V → List V
  | .agg cs => cs
  | v => [v]
def V.one : V → Bool
  | .agg _ => false
  | _ => true
mutual
def V.stab : V → Bool
  | .agg cs => V.stabL cs
  | .sl s _ _ _ => !s
  | .ref s _ => !s
  | .fn s _ _ => !s
  | .ifc _ v => v.stab
  | _ => true
def V.stabL : List V → Bool
  | [] => true
  | v :: r => v.stab && V.stabL r
end
inductive T where
  | p (v : V)
  | own (ty : TypeId) (es : List V)
  | opt (ty : TypeId) (cs : List T)
  | self
  | tup (cs : List T)
  | agg (cs : List T)
  | ifc (t : TypeId) (x : T)
  | clo (f : FuncId) (x : T)
  | dead
  deriving Inhabited
mutual
def T.stab : T → Bool
  | .p v => v.stab
  | .opt _ cs => T.stabL cs
  | .tup cs => T.stabL cs
  | .agg cs => T.stabL cs
  | .ifc _ x => x.stab
  | .clo _ x => x.stab
  | .dead => false
  | _ => true
def T.stabL : List T → Bool
  | [] => true
  | v :: r => v.stab && T.stabL r
end
structure Pl where
  s : Nat
  path : List Nat
  deriving DecidableEq, Inhabited
inductive S where
  | t (x : T)
  | bsl (p : Pl) (off len : Nat) (exact : Bool)
  | bpt (p : Pl) (i j : Nat)
  | bar (p : Pl) (j sz len : Nat)
  | bfn (f : FuncId) (caps : List Pl)
  | bfc (t : TypeId) (p : Pl)
  deriving Inhabited
abbrev S.v (x : V) : S := .t (.p x)
def T.kids : T → Option (List T)
  | .opt _ cs => some cs
  | .ifc _ x => some [x]
  | _ => none
def T.at (x : T) : List Nat → Option T
  | [] => some x
  | j :: r => match x.kids with
    | some cs => match cs[j]? with
      | some y => y.at r
      | none => none
    | none => none
section
variable (P : Program)
inductive PRep (w : World) : (Zs Zx : Nat → Prop) → V → Value → Prop
  | bool {Zs Zx} (b : Bool) : PRep w Zs Zx (.bool b) (.bool b)
  | int {Zs Zx} (k : IntKind) (n : Int) : PRep w Zs Zx (.int k n) (.int k n)
  | str {Zs Zx} (s : List UInt8) : PRep w Zs Zx (.str s) (.string ⟨s.toArray⟩)
  | nilp {Zs Zx} : PRep w Zs Zx .nilp (.pointer none)
  | anyp {Zs Zx} (a : Option Addr) : PRep w Zs Zx .anyp (.pointer a)
  | nilf {Zs Zx} : PRep w Zs Zx .nilf .nilFunc
  | nili {Zs Zx} : PRep w Zs Zx .nili .nilIface
  | agg {Zs Zx} (cs : List V) (vs : List Value) (hl : cs.length = vs.length) (h1 : ∀ (i : Nat) (v : V), cs[i]? = some v → v.one = true)
      (h : ∀ (i : Nat) (v : V) (c : Value), cs[i]? = some v → vs[i]? = some c → PRep w Zs Zx v c) :
      PRep w Zs Zx (.agg cs) (.agg vs.toArray)
  | sl0 {Zs Zx} (snap exact : Bool) (sz : Nat) (a : Option Addr) (cap : Nat) (he : exact = true → cap = 0) : PRep w Zs Zx (.sl snap exact sz []) (.slice a 0 cap)
  | sl {Zs Zx} (snap exact : Bool) (sz : Nat) (es : List V) (b off cap : Nat) (he : exact = true → cap = es.length) (hc : es.length ≤ cap)
      (hz : if snap then Zx b else Zs b) (hcl : ∀ (i : Nat) (e : V), es[i]? = some e → e.cells.length = sz) (h1 : ∀ (i j : Nat) (e v : V), es[i]? = some e → e.cells[j]? = some v → v.one = true)
      (hd : ∀ (i j : Nat) (e v : V), es[i]? = some e → e.cells[j]? = some v → ∃ c, w.cell? ⟨b, off + i * sz + j, none⟩ = some c)
      (h : ∀ (i j : Nat) (e v : V) (c : Value), es[i]? = some e → e.cells[j]? = some v → w.cell? ⟨b, off + i * sz + j, none⟩ = some c → PRep w Zs Zs v c) :
      PRep w Zs Zx (.sl snap exact sz es) (.slice (some ⟨b, off, none⟩) es.length cap)
  | ref {Zs Zx} (snap : Bool) (cs : List V) (b off : Nat) (hz : if snap then Zx b else Zs b) (h1 : ∀ (j : Nat) (v : V), cs[j]? = some v → v.one = true)
      (hd : ∀ (j : Nat) (v : V), cs[j]? = some v → ∃ c, w.cell? ⟨b, off + j, none⟩ = some c)
      (h : ∀ (j : Nat) (v : V) (c : Value), cs[j]? = some v → w.cell? ⟨b, off + j, none⟩ = some c → PRep w Zs (if snap then Zx else Zs) v c) :
      PRep w Zs Zx (.ref snap cs) (.pointer (some ⟨b, off, none⟩))
  | fn {Zs Zx} (snap : Bool) (f : FuncId) (caps : List V) (vs : List Value) (hl : caps.length = vs.length)
      (h : ∀ (i : Nat) (v : V) (c : Value), caps[i]? = some v → vs[i]? = some c → PRep w Zs (if snap then Zx else Zs) v c) :
      PRep w Zs Zx (.fn snap f caps) (.func (.func f) #[] vs.toArray)
  | ifc {Zs Zx} (t : TypeId) (v : V) (c : Value) (h : PRep w Zs Zx v c) : PRep w Zs Zx (.ifc t v) (.iface t c)
  | lenO {Zs Zx} (n : Nat) (a : Option Addr) (cap : Nat) : PRep w Zs Zx (.lenO n) (.slice a n cap)
theorem PRep.mono {w w' : World} {Zs Zx Zs' Zx' : Nat → Prop} {v : V} {c : Value} (h : PRep w Zs Zx v c)
    (hsx : ∀ b, Zs b → Zx b) (hs : ∀ b, Zs b → Zs' b) (hx : ∀ b, Zx b → Zx' b) (hw : ∀ b, Zx b → w'.heap[b]? = w.heap[b]?) : PRep w' Zs' Zx' v c := by
  induction h generalizing Zs' Zx' with
  | bool b => exact .bool b
  | int k n => exact .int k n
  | str s => exact .str s
  | nilp => exact .nilp
  | anyp a => exact .anyp a
  | nilf => exact .nilf
  | nili => exact .nili
  | lenO n a cap => exact .lenO n a cap
  | agg cs vs hl h1 h ih => exact .agg cs vs hl h1 fun i v c h1 h2 => ih i v c h1 h2 hsx hs hx hw
  | sl0 snap exact sz a cap he => exact .sl0 snap exact sz a cap he
  | @sl Zx snap exact sz es b off cap he hc hz hcl h1 hd h ih =>
    have hzx : Zx b := by cases snap; exact hsx _ hz; exact hz
    have hcell : ∀ o, w'.cell? ⟨b, o, none⟩ = w.cell? ⟨b, o, none⟩ := fun o => World.cell?_of_block (w := w) (hw b hzx)
    refine .sl snap exact sz es b off cap he hc ?_ hcl h1 (fun i j e v k1 k2 => by rw [hcell]; exact hd i j e v k1 k2) fun i j e v c k1 k2 h3 => ?_
    · cases snap; exact hs _ hz; exact hx _ hz
    · rw [hcell] at h3
      exact ih i j e v c k1 k2 h3 (fun _ h => h) hs hs fun b hb => hw b (hsx b hb)
  | @ref Zx snap cs b off hz h1 hd h ih =>
    have hzx : Zx b := by cases snap; exact hsx _ hz; exact hz
    have hcell : ∀ o, w'.cell? ⟨b, o, none⟩ = w.cell? ⟨b, o, none⟩ := fun o => World.cell?_of_block (w := w) (hw b hzx)
    refine .ref snap cs b off ?_ h1 (fun j v k1 => by rw [hcell]; exact hd j v k1) fun j v c k1 h2 => ?_
    · cases snap; exact hs _ hz; exact hx _ hz
    · rw [hcell] at h2
      cases snap
      · exact ih j v c k1 h2 (fun _ h => h) hs hs fun b hb => hw b (hsx b hb)
      · exact ih j v c k1 h2 hsx hs hx hw
  | @fn Zx snap f caps vs hl h ih =>
    refine .fn snap f caps vs hl fun i v c h1 h2 => ?_
    cases snap
    · exact ih i v c h1 h2 (fun _ h => h) hs hs fun b hb => hw b (hsx b hb)
    · exact ih i v c h1 h2 hsx hs hx hw
  | ifc t v c h ih => exact .ifc t v c (ih hsx hs hx hw)
end
end Go.Proofs.Ytffofdfikmpanaa.A
namespace Go.Proofs.Ytffofdfikmpanaa.A
set_option linter.unusedVariables false
section
variable (P : Program)
inductive TRep (w : World) (Zs Zx : Nat → Prop) : Option Nat → T → Value → (Nat → Prop) → Prop
  | p (me : Option Nat) (v : V) (c : Value) (F : Nat → Prop) (h : PRep w Zs Zx v c) (hF : ∀ b, ¬ F b) : TRep w Zs Zx me (.p v) c F
  | own0 (me : Option Nat) (ty : TypeId) (ad : Option Addr) (F : Nat → Prop) (hF : ∀ b, ¬ F b) (hn : P.cellsOf ty = 0 → ad = none) : TRep w Zs Zx me (.own ty []) (.slice ad 0 0) F
  | own (me : Option Nat) (ty : TypeId) (es : List V) (b off cap : Nat) (vs : Array Value) (fz : Nat × Nat) (F : Nat → Prop)
      (hw : w.heap[b]? = some (.cells vs ty fz)) (hc : es.length ≤ cap) (hsz : off + cap * P.cellsOf ty ≤ vs.size) (hpos : 0 < P.cellsOf ty)
      (hfz : ∀ k, off ≤ k → k < off + cap * P.cellsOf ty → ¬ (fz.1 ≤ k ∧ k < fz.2))
      (hcl : ∀ (i : Nat) (e : V), es[i]? = some e → e.cells.length = P.cellsOf ty) (h1 : ∀ (i j : Nat) (e v : V), es[i]? = some e → e.cells[j]? = some v → v.one = true)
      (h : ∀ (i j : Nat) (e v : V) (c : Value), es[i]? = some e → e.cells[j]? = some v → vs[off + i * P.cellsOf ty + j]? = some c → PRep w Zs Zs v c)
      (hF : ∀ x, F x ↔ x = b) : TRep w Zs Zx me (.own ty es) (.slice (some ⟨b, off, none⟩) es.length cap) F
  | opt (me : Option Nat) (ty : TypeId) (cs : List T) (b : Nat) (vs : Array Value) (F : Nat → Prop) (G : Nat → Nat → Prop)
      (hw : w.heap[b]? = some (.cells vs ty (0, 0))) (hl : cs.length = vs.size) (h1 : ∀ (i : Nat) (v : V), cs[i]? = some (.p v) → v.one = true)
      (h : ∀ (i : Nat) (t : T) (c : Value), cs[i]? = some t → vs[i]? = some c → TRep w Zs Zx (some b) t c (G i))
      (hF : ∀ x, F x ↔ x = b ∨ ∃ i, i < cs.length ∧ G i x) (hb : ∀ i, i < cs.length → ¬ G i b)
      (hd : ∀ i j x, i < cs.length → j < cs.length → G i x → G j x → i = j) : TRep w Zs Zx me (.opt ty cs) (.pointer (some ⟨b, 0, none⟩)) F
  | self (b : Nat) (F : Nat → Prop) (hF : ∀ b, ¬ F b) : TRep w Zs Zx (some b) .self (.pointer (some ⟨b, 0, none⟩)) F
  | tup (me : Option Nat) (cs : List T) (vs : List Value) (F : Nat → Prop) (G : Nat → Nat → Prop) (hl : cs.length = vs.length)
      (h : ∀ (i : Nat) (t : T) (c : Value), cs[i]? = some t → vs[i]? = some c → TRep w Zs Zx none t c (G i))
      (hF : ∀ x, F x ↔ ∃ i, i < cs.length ∧ G i x) (hd : ∀ i j x, i < cs.length → j < cs.length → G i x → G j x → i = j) :
      TRep w Zs Zx me (.tup cs) (.tuple vs.toArray) F
  | agg (me : Option Nat) (cs : List T) (vs : List Value) (F : Nat → Prop) (G : Nat → Nat → Prop) (hl : cs.length = vs.length) (h1 : ∀ (i : Nat) (v : V), cs[i]? = some (.p v) → v.one = true)
      (h : ∀ (i : Nat) (t : T) (c : Value), cs[i]? = some t → vs[i]? = some c → TRep w Zs Zx none t c (G i))
      (hF : ∀ x, F x ↔ ∃ i, i < cs.length ∧ G i x) (hd : ∀ i j x, i < cs.length → j < cs.length → G i x → G j x → i = j) :
      TRep w Zs Zx me (.agg cs) (.agg vs.toArray) F
  | ifc (me : Option Nat) (t : TypeId) (x : T) (c : Value) (F : Nat → Prop) (h : TRep w Zs Zx none x c F) : TRep w Zs Zx me (.ifc t x) (.iface t c) F
  | clo (me : Option Nat) (f : FuncId) (x : T) (c : Value) (F : Nat → Prop) (h : TRep w Zs Zx none x c F) : TRep w Zs Zx me (.clo f x) (.func (.func f) #[] #[c]) F
  | dead (me : Option Nat) (c : Value) (F : Nat → Prop) (hF : ∀ b, ¬ F b) : TRep w Zs Zx me .dead c F
variable {P}
theorem TRep.mono {w w' : World} {Zs Zx Zs' Zx' : Nat → Prop} {me : Option Nat} {x : T} {c : Value} {F : Nat → Prop} (h : TRep P w Zs Zx me x c F)
    (hsx : ∀ b, Zs b → Zx b) (hs : ∀ b, Zs b → Zs' b) (hx : ∀ b, Zx b → Zx' b) (hw : ∀ b, F b ∨ Zx b → w'.heap[b]? = w.heap[b]?) : TRep P w' Zs' Zx' me x c F := by
  induction h with
  | p me v c F h hF => exact .p me v c F (h.mono hsx hs hx fun b hb => hw b (.inr hb)) hF
  | own0 me ty ad F hF hn => exact .own0 me ty ad F hF hn
  | own me ty es b off cap vs fz F hw0 hc hsz hpos hfz hcl h1 h hF =>
    exact .own me ty es b off cap vs fz F (by rw [hw b (.inl ((hF b).2 rfl))]; exact hw0) hc hsz hpos hfz hcl h1
      (fun i j e v c k1 h2 h3 => (h i j e v c k1 h2 h3).mono (fun _ h => h) hs hs fun b hb => hw b (.inr (hsx b hb))) hF
  | opt me ty cs b vs F G hw0 hl h1 h hF hb hd ih =>
    exact .opt me ty cs b vs F G (by rw [hw b (.inl ((hF b).2 (.inl rfl)))]; exact hw0) hl h1
      (fun i t c k1 h2 => ih i t c k1 h2 fun x hx => hw x (hx.imp (fun hg => (hF x).2 (.inr ⟨i, (List.getElem?_eq_some_iff.1 k1).1, hg⟩)) id)) hF hb hd
  | self b F hF => exact .self b F hF
  | tup me cs vs F G hl h hF hd ih =>
    exact .tup me cs vs F G hl (fun i t c h1 h2 => ih i t c h1 h2 fun x hx => hw x (hx.imp (fun hg => (hF x).2 ⟨i, (List.getElem?_eq_some_iff.1 h1).1, hg⟩) id)) hF hd
  | agg me cs vs F G hl h1 h hF hd ih =>
    exact .agg me cs vs F G hl h1 (fun i t c k1 h2 => ih i t c k1 h2 fun x hx => hw x (hx.imp (fun hg => (hF x).2 ⟨i, (List.getElem?_eq_some_iff.1 k1).1, hg⟩) id)) hF hd
  | ifc me t x c F h ih => exact .ifc me t x c F (ih hw)
  | clo me f x c F h ih => exact .clo me f x c F (ih hw)
  | dead me c F hF => exact .dead me c F hF
theorem TRep.iff {w : World} {Zs Zx : Nat → Prop} {me : Option Nat} {x : T} {c : Value} {F F' : Nat → Prop} (h : TRep P w Zs Zx me x c F) (hF : ∀ b, F b ↔ F' b) : TRep P w Zs Zx me x c F' := by
  have : F = F' := funext fun b => propext (hF b)
  exact this ▸ h
def cAt (w : World) : Value → List Nat → Option Value
  | c, [] => some c
  | .pointer (some a), j :: r => match w.cell? (a.add j) with
    | some c' => cAt w c' r
    | none => none
  | .iface _ c, 0 :: r => cAt w c r
  | _, _ :: _ => none
def T.put (y : T) : List Nat → T → T
  | [], _ => y
  | j :: r, .opt ty cs => match cs[j]? with
    | some z => .opt ty (cs.set j (T.put y r z))
    | none => .opt ty cs
  | 0 :: r, .ifc t x => .ifc t (T.put y r x)
  | _ :: _, x => x
theorem Addr.add0 (b j : Nat) : (⟨b, 0, none⟩ : Addr).add j = ⟨b, j, none⟩ := by
  unfold Addr.add; split <;> simp_all
theorem cell_row {w : World} {b : Nat} {vs : Array Value} {ty : TypeId} {fz : Nat × Nat} (h : w.heap[b]? = some (.cells vs ty fz)) (j : Nat) : w.cell? ⟨b, j, none⟩ = vs[j]? := by
  simp [World.cell?, h]
theorem T.put_one {x y y' : T} {r : List Nat} {v : V} (h : x.at r = some y) (h1 : ∀ v, y' = .p v → v.one = true) (he : T.put y' r x = .p v) : v.one = true := by
  cases r with
  | nil => exact h1 v he
  | cons j r =>
    cases x with
    | opt ty cs => simp only [T.put] at he; split at he <;> cases he
    | ifc t x => cases j <;> simp [T.put] at he
    | _ => simp [T.at, T.kids] at h
theorem TRep.way {w : World} {Zs Zx : Nat → Prop} (path : List Nat) : ∀ {me : Option Nat} {x y : T} {c : Value} {F : Nat → Prop}, TRep P w Zs Zx me x c F → x.at path = some y →
    ∃ me' c' F', cAt w c path = some c' ∧ TRep P w Zs Zx me' y c' F' ∧ (∀ b, F' b → F b) ∧
      ∀ (w' : World) (Zs' Zx' : Nat → Prop) (y' : T) (F'' : Nat → Prop), (∀ b, Zs b → Zx b) → (∀ b, Zs b → Zs' b) → (∀ b, Zx b → Zx' b) →
        (∀ b, (F b ∧ ¬ F' b) ∨ Zx b → w'.heap[b]? = w.heap[b]?) → TRep P w' Zs' Zx' me' y' c' F'' → (∀ b, F'' b → F' b ∨ ¬ F b) → (∀ v, y' = .p v → v.one = true) →
        TRep P w' Zs' Zx' me (T.put y' path x) c (fun b => (F b ∧ ¬ F' b) ∨ F'' b) ∧ ∀ q r, path = q ++ r → cAt w' c q = cAt w c q := by
  induction path with
  | nil =>
    intro me x y c F h hy
    simp only [T.at, Option.some.injEq] at hy
    subst hy
    refine ⟨me, c, F, rfl, h, fun _ h => h, fun w' Zs' Zx' y' F'' hsx hs hx hw hy' hF _ => ⟨?_, fun q r hq => ?_⟩⟩
    · simp only [T.put]
      exact hy'.iff fun b => ⟨.inr, fun h => h.elim (fun h => absurd h.1 h.2) id⟩
    · cases q with
      | nil => rfl
      | cons a q => simp at hq
  | cons j r ih =>
    -- the step through the cells of a block
    have core : ∀ {me : Option Nat} {ty : TypeId} {cs : List T} {y : T} {c : Value} {F : Nat → Prop}, TRep P w Zs Zx me (.opt ty cs) c F → (T.opt ty cs).at (j :: r) = some y →
        ∃ b, c = .pointer (some ⟨b, 0, none⟩) ∧ ∃ me' c' F', (match w.cell? ⟨b, j, none⟩ with | some c' => cAt w c' r | none => none) = some c' ∧ TRep P w Zs Zx me' y c' F' ∧ (∀ b, F' b → F b) ∧
          ∀ (w' : World) (Zs' Zx' : Nat → Prop) (y' : T) (F'' : Nat → Prop), (∀ b, Zs b → Zx b) → (∀ b, Zs b → Zs' b) → (∀ b, Zx b → Zx' b) →
            (∀ b, (F b ∧ ¬ F' b) ∨ Zx b → w'.heap[b]? = w.heap[b]?) → TRep P w' Zs' Zx' me' y' c' F'' → (∀ b, F'' b → F' b ∨ ¬ F b) → (∀ v, y' = .p v → v.one = true) →
            TRep P w' Zs' Zx' me (T.put y' (j :: r) (T.opt ty cs)) c (fun b => (F b ∧ ¬ F' b) ∨ F'' b) ∧ ∀ q r', r = q ++ r' → (match w'.cell? ⟨b, j, none⟩ with | some c' => cAt w' c' q | none => none) = (match w.cell? ⟨b, j, none⟩ with | some c' => cAt w c' q | none => none) := by
      intro me ty cs y c F h hy
      cases h with
      | opt me ty cs b vs F G hw0 hl hone h hF hb hd =>
        simp only [T.at, T.kids] at hy
        cases hz : cs[j]? with
        | none => simp [hz] at hy
        | some z =>
          simp only [hz] at hy
          have hj : j < cs.length := (List.getElem?_eq_some_iff.1 hz).1
          obtain ⟨d, hd'⟩ : ∃ d, vs[j]? = some d := ⟨vs[j], by simp [hl ▸ hj]⟩
          obtain ⟨me', c', F', hc', hy', hsub, hput⟩ := ih (h j z d hz hd') hy
          have hGF : ∀ x, G j x → F x := fun x hx => (hF x).2 (.inr ⟨j, hj, hx⟩)
          refine ⟨b, rfl, me', c', F', ?_, hy', fun x hx => hGF x (hsub x hx), fun w' Zs' Zx' y' F'' hsx hs hx hw hy'' hF'' hy1 => ?_⟩
          · rw [cell_row hw0, hd']; exact hc'
          · have hbF' : ¬ F' b := fun hh => hb j hj (hsub b hh)
            have hwb : w'.heap[b]? = some (.cells vs ty (0, 0)) := by rw [hw b (.inl ⟨(hF b).2 (.inl rfl), hbF'⟩)]; exact hw0
            have hF2 : ∀ x, F'' x → F' x ∨ ¬ G j x := fun x hx => (hF'' x hx).imp id fun hn hg => hn (hGF x hg)
            obtain ⟨hnew, hcat⟩ := hput w' Zs' Zx' y' F'' hsx hs hx
              (fun x hx => hw x (hx.imp (fun hh => ⟨hGF x hh.1, hh.2⟩) id)) hy'' hF2 hy1
            refine ⟨?_, fun q r' hq => by rw [cell_row hwb, cell_row hw0, hd']; exact hcat q r' hq⟩
            simp only [T.put, hz]
            refine .opt me ty _ b vs _ (fun i => if i = j then (fun x => (G j x ∧ ¬ F' x) ∨ F'' x) else G i) hwb (by simp [hl]) ?_ ?_ ?_ ?_ ?_
            · intro i v hi
              by_cases hij : i = j
              · subst hij
                rw [List.getElem?_set_self hj] at hi
                exact T.put_one hy hy1 (Option.some.inj hi)
              · rw [List.getElem?_set_ne (Ne.symm hij)] at hi
                exact hone i v hi
            · intro i t c h1 h2
              by_cases hij : i = j
              · subst hij
                rw [List.getElem?_set_self hj] at h1
                cases h1
                rw [hd'] at h2; cases h2
                simpa using hnew
              · rw [List.getElem?_set_ne (Ne.symm hij)] at h1
                simp only [if_neg hij]
                have hi : i < cs.length := (List.getElem?_eq_some_iff.1 h1).1
                exact (h i t c h1 h2).mono hsx hs hx fun x hx => hw x (hx.imp (fun hg => ⟨(hF x).2 (.inr ⟨i, hi, hg⟩), fun hf => hij (hd i j x hi hj hg (hsub x hf))⟩) id)
            · intro x
              simp only [List.length_set]
              constructor
              · rintro (⟨hf, hn⟩ | hf)
                · rcases (hF x).1 hf with rfl | ⟨i, hi, hg⟩
                  · exact .inl rfl
                  · refine .inr ⟨i, hi, ?_⟩
                    by_cases hij : i = j
                    · subst hij; simp only [if_true]; exact .inl ⟨hg, hn⟩
                    · simp only [if_neg hij]; exact hg
                · exact .inr ⟨j, hj, by simp only [if_true]; exact .inr hf⟩
              · rintro (rfl | ⟨i, hi, hg⟩)
                · exact .inl ⟨(hF x).2 (.inl rfl), hbF'⟩
                · by_cases hij : i = j
                  · subst hij
                    simp only [if_true] at hg
                    exact hg.imp (fun hh => ⟨hGF x hh.1, hh.2⟩) id
                  · simp only [if_neg hij] at hg
                    exact .inl ⟨(hF x).2 (.inr ⟨i, hi, hg⟩), fun hf => hij (hd i j x hi hj hg (hsub x hf))⟩
            · intro i hi
              simp only [List.length_set] at hi
              by_cases hij : i = j
              · subst hij
                simp only [if_true]
                rintro (⟨hg, _⟩ | hf)
                · exact hb i hj hg
                · rcases hF'' b hf with h1 | h1
                  · exact hbF' h1
                  · exact h1 ((hF b).2 (.inl rfl))
              · simp only [if_neg hij]; exact hb i hi
            · intro i k x hi hk
              simp only [List.length_set] at hi hk
              have cross : ∀ i, i < cs.length → i ≠ j → G i x → ((G j x ∧ ¬ F' x) ∨ F'' x) → False := by
                intro i hi hij hg hh
                rcases hh with hh | hh
                · exact hij (hd i j x hi hj hg hh.1)
                · rcases hF'' x hh with h1 | h1
                  · exact hij (hd i j x hi hj hg (hsub x h1))
                  · exact h1 ((hF x).2 (.inr ⟨i, hi, hg⟩))
              by_cases hij : i = j
              · by_cases hkj : k = j
                · intro _ _; rw [hij, hkj]
                · subst hij
                  simp only [if_true, if_neg hkj]
                  exact fun h1 h2 => (cross k hk hkj h2 h1).elim
              · by_cases hkj : k = j
                · subst hkj
                  simp only [if_true, if_neg hij]
                  exact fun h1 h2 => (cross i hi hij h1 h2).elim
                · simp only [if_neg hij, if_neg hkj]
                  exact hd i k x hi hk
    intro me x y c F h hy
    cases x with
    | opt ty cs =>
      obtain ⟨b, rfl, me', c', F', h1, h2, h3, h4⟩ := core h hy
      refine ⟨me', c', F', by simpa [cAt, Addr.add0] using h1, h2, h3, fun w' Zs' Zx' y' F'' a1 a2 a3 a4 a5 a6 a7 => ?_⟩
      obtain ⟨h5, h6⟩ := h4 w' Zs' Zx' y' F'' a1 a2 a3 a4 a5 a6 a7
      refine ⟨h5, fun q r' hq => ?_⟩
      cases q with
      | nil => rfl
      | cons k q =>
        obtain ⟨rfl, hq'⟩ := List.cons.inj hq
        simpa [cAt, Addr.add0] using h6 q r' hq'
    | ifc t x =>
      cases j with
      | succ j => simp [T.at, T.kids] at hy
      | zero =>
        cases h with
        | ifc me t x c F h =>
          obtain ⟨me', c', F', h1, h2, h3, h4⟩ := ih h (by simpa [T.at, T.kids] using hy)
          refine ⟨me', c', F', by simpa [cAt] using h1, h2, h3, fun w' Zs' Zx' y' F'' a1 a2 a3 a4 a5 a6 a7 => ?_⟩
          obtain ⟨h5, h6⟩ := h4 w' Zs' Zx' y' F'' a1 a2 a3 a4 a5 a6 a7
          refine ⟨by simp only [T.put]; exact TRep.ifc (P := P) me t _ _ _ h5, fun q r' hq => ?_⟩
          cases q with
          | nil => rfl
          | cons k q =>
            obtain ⟨rfl, hq'⟩ := List.cons.inj hq
            simpa [cAt] using h6 q r' hq'
    | _ => simp [T.at, T.kids] at hy
end
end Go.Proofs.Ytffofdfikmpanaa.A
namespace Go.Proofs.Ytffofdfikmpanaa.A
set_option linter.unusedVariables false
def Pl.keep (p : Pl) (k : Bool) (q : Pl) : Bool := q.s != p.s || (q.path.isPrefixOf p.path && (k || q.path != p.path))
def S.kill (p : Pl) (k : Bool) : S → S
  | .t x => .t x
  | .bsl q off len e => if p.keep k q then .bsl q off len e else .t .dead
  | .bpt q i j => if p.keep k q then .bpt q i j else .t .dead
  | .bar q j sz len => if p.keep k q then .bar q j sz len else .t .dead
  | .bfn f caps => if caps.all (p.keep k) then .bfn f caps else .t .dead
  | .bfc ty q => if p.keep k q then .bfc ty q else .t .dead
def killP (p : Pl) (k : Bool) (sl : List S) : List S := sl.map (S.kill p k)
def slAt (sl : List S) (p : Pl) : Option T :=
  match sl[p.s]? with
  | some (.t x) => x.at p.path
  | _ => none
def cvAt (w : World) (cv : List Value) (p : Pl) : Option Value :=
  match cv[p.s]? with
  | some c => cAt w c p.path
  | none => none
def T.like : T → T → Prop
  | .own ty es, .own ty' es' => ty = ty' ∧ es.length = es'.length
  | .opt ty cs, .opt ty' cs' => ty = ty' ∧ cs.length = cs'.length
  | .ifc t _, .ifc t' _ => t = t'
  | _, _ => False
def BRep (P : Program) (z : T) (cz : Value) : S → Value → Prop
  | .bsl p off len ex, c => ∃ ty es a L cap a' cap', z = .own ty es ∧ cz = .slice a L cap ∧ off + len ≤ es.length ∧ c = .slice a' len cap' ∧ len ≤ cap' ∧ off + cap' ≤ cap ∧
      (ex = true → cap' = len) ∧ ((cap' = 0 ∧ (a = none → a' = none)) ∨ ∃ b o, a = some ⟨b, o, none⟩ ∧ a' = some ⟨b, o + off * P.cellsOf ty, none⟩)
  | .bpt p i j, c => (∃ ty es b o L cap, z = .own ty es ∧ cz = .slice (some ⟨b, o, none⟩) L cap ∧ i < es.length ∧ j < P.cellsOf ty ∧ c = .pointer (some ⟨b, o + i * P.cellsOf ty + j, none⟩)) ∨
      (∃ ty cs b, z = .opt ty cs ∧ cz = .pointer (some ⟨b, 0, none⟩) ∧ i = 0 ∧ c = .pointer (some ⟨b, j, none⟩))
  | .bar p j sz len, c => ∃ ty cs b a cap, z = .opt ty cs ∧ cz = .pointer (some ⟨b, 0, none⟩) ∧ c = .slice a len cap ∧ len ≤ cap ∧ j + cap * sz ≤ cs.length ∧ (cap = 0 ∨ a = some ⟨b, j, none⟩)
  | .bfc u p, c => ∃ x b, z = .ifc u x ∧ cz = .iface u (.pointer (some ⟨b, 0, none⟩)) ∧ c = cz
  | _, _ => False
theorem BRep.like {P : Program} {z z' : T} {cz : Value} {s : S} {c : Value} (h : BRep P z cz s c) (hl : z.like z') : BRep P z' cz s c := by
  cases s with
  | bsl p off len ex =>
    obtain ⟨ty, es, a, L, cap, a', cap', rfl, rfl, h1, h2⟩ := h
    cases z' <;> simp only [T.like] at hl
    obtain ⟨rfl, hl⟩ := hl
    exact ⟨ty, _, a, L, cap, a', cap', rfl, rfl, hl ▸ h1, h2⟩
  | bpt p i j =>
    rcases h with ⟨ty, es, b, o, L, cap, rfl, rfl, h1, h2⟩ | ⟨ty, cs, b, rfl, rfl, h1, h3⟩
    · cases z' <;> simp only [T.like] at hl
      obtain ⟨rfl, hl⟩ := hl
      exact .inl ⟨ty, _, b, o, L, cap, rfl, rfl, hl ▸ h1, h2⟩
    · cases z' <;> simp only [T.like] at hl
      obtain ⟨rfl, hl⟩ := hl
      exact .inr ⟨ty, _, b, rfl, rfl, h1, h3⟩
  | bar p j sz len =>
    obtain ⟨ty, cs, b, a, cap, rfl, rfl, h1, h2, h3, h4⟩ := h
    cases z' <;> simp only [T.like] at hl
    obtain ⟨rfl, hl⟩ := hl
    exact ⟨ty, _, b, a, cap, rfl, rfl, h1, h2, hl ▸ h3, h4⟩
  | bfc t p =>
    obtain ⟨x, b, rfl, rfl, rfl⟩ := h
    cases z' with
    | ifc t' x' =>
      simp only [T.like] at hl
      subst hl
      exact ⟨_, b, rfl, rfl, rfl⟩
    | _ => simp only [T.like] at hl
  | _ => exact h.elim
theorem BRep.node {P : Program} {z : T} {cz : Value} {s : S} {c : Value} (h : BRep P z cz s c) : ∀ v, z ≠ .p v := by
  rintro v rfl
  cases s <;> simp [BRep] at h
def S.place : S → Option Pl
  | .bsl p _ _ _ | .bpt p _ _ | .bar p _ _ _ | .bfc _ p => some p
  | _ => none
section
variable (P : Program)
def SRep (w : World) (Zs Zx : Nat → Prop) (sl : List S) (cv : List Value) (s : S) (c : Value) (F : Nat → Prop) : Prop :=
  match s with
  | .t x => TRep P w Zs Zx none x c F
  | .bfn f caps => (∀ b, ¬ F b) ∧ ∃ vs : List Value, c = .func (.func f) #[] vs.toArray ∧ vs.length = caps.length ∧
      ∀ (i : Nat) (p : Pl) (v : Value), caps[i]? = some p → vs[i]? = some v → ∃ z cz, slAt sl p = some z ∧ cvAt w cv p = some cz ∧ BRep P z cz (.bpt p 0 0) v
  | s => (∀ b, ¬ F b) ∧ ∃ p z cz, s.place = some p ∧ slAt sl p = some z ∧ cvAt w cv p = some cz ∧ BRep P z cz s c
structure Rel (w : World) (X : Nat → Prop) (sl : List S) (cv : List Value) (F : Nat → Nat → Prop) : Prop where
  len : sl.length = cv.length
  lt : ∀ i b, F i b → b < w.heap.size
  disj : ∀ i j b, F i b → F j b → i = j
  apart : ∀ i b, F i b → ¬ X b
  xlt : ∀ b, X b → b < w.heap.size
  slot : ∀ i s c, sl[i]? = some s → cv[i]? = some c → SRep P w (fun b => (b < w.heap.size ∧ ∀ i, ¬ F i b) ∧ ¬ X b) (fun b => b < w.heap.size ∧ ∀ i, ¬ F i b) sl cv s c (F i)
variable {P}
def zx (w : World) (F : Nat → Nat → Prop) : Nat → Prop := fun b => b < w.heap.size ∧ ∀ i, ¬ F i b
def zs (w : World) (X : Nat → Prop) (F : Nat → Nat → Prop) : Nat → Prop := fun b => (b < w.heap.size ∧ ∀ i, ¬ F i b) ∧ ¬ X b
theorem zs_zx {w : World} {X : Nat → Prop} {F : Nat → Nat → Prop} : ∀ b, zs w X F b → zx w F b := fun _ h => h.1
structure Turns (w w' : World) (O : Nat → Prop) : Prop where
  os : w'.os = w.os
  tape : w'.tape = w.tape
  output : w'.output = w.output
  size : w.heap.size ≤ w'.heap.size
  block : ∀ b, b < w.heap.size → ¬ O b → w'.heap[b]? = w.heap[b]?
theorem Turns.refl (w : World) (O : Nat → Prop) : Turns w w O := ⟨rfl, rfl, rfl, Nat.le_refl _, fun _ _ _ => rfl⟩
theorem Turns.mono {w w' : World} {O O' : Nat → Prop} (h : Turns w w' O) (hO : ∀ b, O b → O' b) : Turns w w' O' :=
  ⟨h.os, h.tape, h.output, h.size, fun b hb hn => h.block b hb fun ho => hn (hO b ho)⟩
theorem Turns.trans {w w' w'' : World} {O O' : Nat → Prop} (h : Turns w w' O) (h' : Turns w' w'' O') (hO : ∀ b, O' b → O b ∨ w.heap.size ≤ b) : Turns w w'' O :=
  ⟨h'.os.trans h.os, h'.tape.trans h.tape, h'.output.trans h.output, Nat.le_trans h.size h'.size,
   fun b hb hn => (h'.block b (Nat.lt_of_lt_of_le hb h.size) fun ho => (hO b ho).elim hn (fun hh => by omega)).trans (h.block b hb hn)⟩
theorem slAt_set_ne {sl : List S} {d : Nat} {s : S} {p : Pl} (h : p.s ≠ d) : slAt (sl.set d s) p = slAt sl p := by
  simp only [slAt]; rw [List.getElem?_set_ne (Ne.symm h)]
theorem slAt_set_eq {sl : List S} {d : Nat} {x : T} {p : Pl} (hd : d < sl.length) (h : p.s = d) : slAt (sl.set d (.t x)) p = x.at p.path := by
  subst h; simp only [slAt]; rw [List.getElem?_set_self hd]
theorem cvAt_set_ne {w : World} {cv : List Value} {d : Nat} {c : Value} {p : Pl} (h : p.s ≠ d) : cvAt w (cv.set d c) p = cvAt w cv p := by
  simp only [cvAt]; rw [List.getElem?_set_ne (Ne.symm h)]
theorem cvAt_set_eq {w : World} {cv : List Value} {d : Nat} {c : Value} {p : Pl} (hd : d < cv.length) (h : p.s = d) : cvAt w (cv.set d c) p = cAt w c p.path := by
  subst h; simp only [cvAt]; rw [List.getElem?_set_self hd]
theorem killP_length (p : Pl) (k : Bool) (sl : List S) : (killP p k sl).length = sl.length := by simp [killP]
theorem slAt_killP {p : Pl} {k : Bool} {sl : List S} {q : Pl} {z : T} (h : slAt sl q = some z) : slAt (killP p k sl) q = some z := by
  simp only [slAt, killP, List.getElem?_map] at *
  cases hs : sl[q.s]? with
  | none => simp [hs] at h
  | some s => cases s <;> simp [hs, S.kill] at h ⊢; exact h
theorem Rel.far {w w' : World} {X : Nat → Prop} {sl : List S} {cv : List Value} {F : Nat → Nat → Prop} (R : Rel P w X sl cv F) {q : Pl} {z : T} {cz : Value}
    (hz : slAt sl q = some z) (hc : cvAt w cv q = some cz) (hn : ∀ v, z ≠ .p v) (hw : ∀ b, F q.s b → w'.heap[b]? = w.heap[b]?) (hx : ∀ b, zx w F b → w'.heap[b]? = w.heap[b]?) : cvAt w' cv q = some cz := by
  simp only [slAt] at hz
  simp only [cvAt] at hc ⊢
  cases hs : sl[q.s]? with
  | none => simp [hs] at hz
  | some s =>
    cases hv : cv[q.s]? with
    | none => simp [hv] at hc
    | some c =>
      simp only [hs] at hz
      simp only [hv] at hc ⊢
      cases s with
      | t x =>
        have ht : TRep P w (zs w X F) (zx w F) none x c (F q.s) := R.slot q.s _ c hs hv
        obtain ⟨me', c', F', h1, h2, h3, h4⟩ := ht.way q.path hz
        rw [h1] at hc
        cases hc
        have hone : ∀ v, z = .p v → v.one = true := fun v h => absurd h (hn v)
        have h5 := (h4 w' (zs w X F) (zx w F) z F' zs_zx (fun _ h => h) (fun _ h => h) (fun b hb => hb.elim (fun hh => hw b hh.1) (hx b)) (h2.mono zs_zx (fun _ h => h) (fun _ h => h) (fun b hb => hb.elim (fun hh => hw b (h3 b hh)) (hx b))) (fun b hb => .inl hb) hone).2 q.path [] (by simp)
        rw [h5, h1]
      | _ => simp at hz
theorem Rel.set {w w' : World} {X : Nat → Prop} {sl : List S} {cv : List Value} {F : Nat → Nat → Prop} (R : Rel P w X sl cv F) (p : Pl) (k : Bool) (s' : S) (c' : Value) (Fd : Nat → Prop)
    (hd : p.s < sl.length) (hw : Turns w w' (F p.s)) (hF : ∀ b, Fd b → F p.s b ∨ w.heap.size ≤ b) (hlt : ∀ b, Fd b → b < w'.heap.size)
    (hborrow : ∀ (q : Pl) (z : T) (cz : Value), q.s = p.s → p.keep k q = true → slAt sl q = some z → cvAt w cv q = some cz → (∀ v, z ≠ .p v) →
      ∃ x' z', s' = .t x' ∧ x'.at q.path = some z' ∧ z.like z' ∧ cAt w' c' q.path = some cz)
    (hs : SRep P w' (zs w' X (fun i => if i = p.s then Fd else F i)) (zx w' (fun i => if i = p.s then Fd else F i)) ((killP p k sl).set p.s s') (cv.set p.s c') s' c' Fd) :
    Rel P w' X ((killP p k sl).set p.s s') (cv.set p.s c') (fun i => if i = p.s then Fd else F i) := by
  have hzx : ∀ b, zx w F b → zx w' (fun i => if i = p.s then Fd else F i) b := fun b hb => ⟨Nat.lt_of_lt_of_le hb.1 hw.size, fun i => by
    by_cases hi : i = p.s
    · simp only [hi, if_true]; exact fun h => (hF b h).elim (hb.2 p.s) (fun hh => by have := hb.1; omega)
    · simp only [if_neg hi]; exact hb.2 i⟩
  have hzs : ∀ b, zs w X F b → zs w' X (fun i => if i = p.s then Fd else F i) b := fun b hb => ⟨hzx b hb.1, hb.2⟩
  have hstay : ∀ b, zx w F b → w'.heap[b]? = w.heap[b]? := fun b hb => hw.block b hb.1 (hb.2 p.s)
  have hother : ∀ i, i ≠ p.s → ∀ b, F i b → w'.heap[b]? = w.heap[b]? := fun i hi b hb => hw.block b (R.lt i b hb) fun h => hi (R.disj i p.s b hb h)
  -- a borrowed value that is kept
  have keep : ∀ (q : Pl) (z : T) (cz : Value), p.keep k q = true → slAt sl q = some z → cvAt w cv q = some cz → (∀ v, z ≠ .p v) →
      ∃ z', slAt ((killP p k sl).set p.s s') q = some z' ∧ (z = z' ∨ z.like z') ∧ cvAt w' (cv.set p.s c') q = some cz := by
    intro q z cz hk hz hc hn
    by_cases hq : q.s = p.s
    · obtain ⟨x', z', rfl, h1, h2, h3⟩ := hborrow q z cz hq hk hz hc hn
      exact ⟨z', by rw [slAt_set_eq (by rw [killP_length]; exact hd) hq]; exact h1, .inr h2, by rw [cvAt_set_eq (by rw [← R.len]; exact hd) hq]; exact h3⟩
    · exact ⟨z, by rw [slAt_set_ne hq]; exact slAt_killP hz, .inl rfl, by rw [cvAt_set_ne hq]; exact R.far hz hc hn (hother q.s hq) hstay⟩
  refine ⟨by simp [killP_length, R.len], ?_, ?_, ?_, fun b hb => Nat.lt_of_lt_of_le (R.xlt b hb) hw.size, ?_⟩
  · intro i b
    by_cases hi : i = p.s
    · simp only [hi, if_true]; exact hlt b
    · simp only [if_neg hi]; exact fun h => Nat.lt_of_lt_of_le (R.lt i b h) hw.size
  · intro i j b
    by_cases hi : i = p.s
    · by_cases hj : j = p.s
      · intro _ _; rw [hi, hj]
      · simp only [hi, if_true, if_neg hj]
        intro h1 h2
        rcases hF b h1 with h | h
        · exact (hj (R.disj j p.s b h2 h)).elim
        · have := R.lt j b h2; omega
    · by_cases hj : j = p.s
      · simp only [hj, if_true, if_neg hi]
        intro h1 h2
        rcases hF b h2 with h | h
        · exact (hi (R.disj i p.s b h1 h)).elim
        · have := R.lt i b h1; omega
      · simp only [if_neg hi, if_neg hj]
        exact R.disj i j b
  · intro i b
    by_cases hi : i = p.s
    · simp only [hi, if_true]
      exact fun h hx => (hF b h).elim (fun h' => R.apart _ b h' hx) (fun h' => by have := R.xlt b hx; omega)
    · simp only [if_neg hi]; exact R.apart i b
  · intro i s c h1 h2
    by_cases hi : i = p.s
    · subst hi
      rw [List.getElem?_set_self (by rw [killP_length]; exact hd)] at h1
      rw [List.getElem?_set_self (by rw [← R.len]; exact hd)] at h2
      cases h1; cases h2
      simp only [if_true]
      exact hs
    · rw [List.getElem?_set_ne (Ne.symm hi)] at h1 h2
      simp only [if_neg hi]
      simp only [killP, List.getElem?_map] at h1
      cases hsi : sl[i]? with
      | none => simp [hsi] at h1
      | some s0 =>
        simp only [hsi, Option.map_some, Option.some.injEq] at h1
        have h0 := R.slot i s0 c hsi h2
        have hone : ∀ (p0 : Pl) (s0 : S), s0.place = some p0 → S.kill p k s0 = (if p.keep k p0 then s0 else .t .dead) →
            ((∀ b, ¬ F i b) ∧ ∃ p z cz, s0.place = some p ∧ slAt sl p = some z ∧ cvAt w cv p = some cz ∧ BRep P z cz s0 c) → S.kill p k s0 = s →
            (s0.place ≠ none → (∀ x, s0 ≠ .t x) → (∀ f caps, s0 ≠ .bfn f caps) → SRep P w' (zs w' X (fun i => if i = p.s then Fd else F i)) (zx w' (fun i => if i = p.s then Fd else F i)) ((killP p k sl).set p.s s') (cv.set p.s c') s c (F i)) := by
          intro p0 s0 hp hkill h0 h1 _ hn1 hn2
          obtain ⟨hFe, p1, z, cz, hp1, hz, hc, hb⟩ := h0
          rw [hp] at hp1; cases hp1
          rw [hkill] at h1
          by_cases hk : p.keep k p0 = true
          · rw [if_pos hk] at h1; subst h1
            obtain ⟨z', h3, h4, h5⟩ := keep p0 z cz hk hz hc hb.node
            have hb' : BRep P z' cz s0 c := h4.elim (fun e => e ▸ hb) (fun e => hb.like e)
            cases s0 with
            | t x => exact absurd rfl (hn1 x)
            | bfn f caps => exact absurd rfl (hn2 f caps)
            | _ => exact ⟨hFe, p0, z', cz, hp, h3, h5, hb'⟩
          · rw [if_neg hk] at h1; subst h1
            exact .dead none c _ hFe
        cases s0 with
        | t x =>
          simp only [S.kill] at h1; subst h1
          exact TRep.mono h0 zs_zx hzs hzx fun b hb => hb.elim (hother i hi b) (hstay b)
        | bfn f caps =>
          obtain ⟨hFe, vs, rfl, hl, hv⟩ := h0
          simp only [S.kill] at h1
          by_cases hk : caps.all (p.keep k) = true
          · rw [if_pos hk] at h1; subst h1
            refine ⟨hFe, vs, rfl, hl, fun n q v hq hvn => ?_⟩
            obtain ⟨z, cz, hz, hc, hb⟩ := hv n q v hq hvn
            have hkq : p.keep k q = true := List.all_eq_true.1 hk q (List.mem_of_getElem? hq)
            obtain ⟨z', h3, h4, h5⟩ := keep q z cz hkq hz hc hb.node
            exact ⟨z', cz, h3, h5, h4.elim (fun e => e ▸ hb) (fun e => hb.like e)⟩
          · rw [if_neg hk] at h1; subst h1
            exact .dead none _ _ hFe
        | bsl q off len ex => exact hone q _ rfl rfl h0 h1 (by simp [S.place]) (by simp) (by simp)
        | bpt q a b => exact hone q _ rfl rfl h0 h1 (by simp [S.place]) (by simp) (by simp)
        | bar q j sz len => exact hone q _ rfl rfl h0 h1 (by simp [S.place]) (by simp) (by simp)
        | bfc t q => exact hone q _ rfl rfl h0 h1 (by simp [S.place]) (by simp) (by simp)
end
end Go.Proofs.Ytffofdfikmpanaa.A
namespace Go.Proofs.Ytffofdfikmpanaa.A
set_option linter.unusedVariables false
def kV : Value → Option V
  | .bool b => some (.bool b)
  | .int k n => some (.int k n)
  | .string s => some (.str s.data.toList)
  | .pointer none => some .nilp
  | .nilFunc => some .nilf
  | .nilIface => some .nili
  | _ => none
def nilTy : TypeId := 4294967295
def kT : Value → Option T
  | .slice none 0 0 => some (.own nilTy [])
  | v => (kV v).map .p
def kTs : List Value → Option (List T)
  | [] => some []
  | v :: r => match kT v, kTs r with
    | some x, some y => some (x :: y)
    | _, _ => none
def kVs : List Value → Option (List V)
  | [] => some []
  | v :: r => match kV v, kVs r with
    | some x, some y => some (x :: y)
    | _, _ => none
def konst : Value → Option T
  | .agg cs => (kVs cs.toList).map fun l => .p (.agg l)
  | v => kT v
def rdS (t : Nat) : S → S
  | .t (.own ty es) => .bsl ⟨t, []⟩ 0 es.length false
  | .t (.opt ty cs) => .bpt ⟨t, []⟩ 0 0
  | .t (.ifc u (.opt ty cs)) => .bfc u ⟨t, []⟩
  | s => s
def rd (sl : List S) : Operand → Option S
  | .tmp t => match sl[t]? with
    | some s => some (rdS t s)
    | none => none
  | .const v => match konst v with
    | some x => some (.t x)
    | none => none
  | .func f => some (.t (.p (.fn false f [])))
  | .global _ => none
def pv (sl : List S) (x : Operand) : Option V :=
  match rd sl x with
  | some (.t (.p v)) => some v
  | _ => none
def elemsS (P : Program) (sl : List S) : S → Option (Nat × List V)
  | .t (.p (.sl _ _ sz es)) => some (sz, es)
  | .t (.own ty []) => some (0, [])
  | .bsl p off len _ => match slAt sl p with
    | some (.own ty es) => some (P.cellsOf ty, (es.drop off).take len)
    | _ => none
  | .bar p j sz len => match slAt sl p with
    | some (.opt ty cs) => if sz = 1 then (match T.pures ((cs.drop j).take len) with | some l => if V.stabL l then some (1, l) else none | none => none) else none
    | _ => none
  | _ => none
where
  T.pures : List T → Option (List V)
    | [] => some []
    | .p v :: r => match T.pures r with
      | some l => some (v :: l)
      | none => none
    | _ :: _ => none
def elems (P : Program) (sl : List S) (x : Operand) : Option (Nat × List V) :=
  match rd sl x with
  | some s => elemsS P sl s
  | none => none
def wordAnd (k : IntKind) (x y : Int) : Int := k.wrap (BitVec.ofInt k.bits x &&& BitVec.ofInt k.bits y).toNat
def wordOr (k : IntKind) (x y : Int) : Int := k.wrap (BitVec.ofInt k.bits x ||| BitVec.ofInt k.bits y).toNat
def wordXor (k : IntKind) (x y : Int) : Int := k.wrap (BitVec.ofInt k.bits x ^^^ BitVec.ofInt k.bits y).toNat
def wordAndNot (k : IntKind) (x y : Int) : Int := k.wrap (BitVec.ofInt k.bits x &&& ~~~ BitVec.ofInt k.bits y).toNat
def wordShl (k : IntKind) (x y : Int) : Int := k.wrap (x * 2 ^ (min y.toNat k.bits))
def wordShr (k : IntKind) (x y : Int) : Int := x.fdiv (2 ^ (min y.toNat k.bits))
def binInt (op : BinOp) (k : IntKind) (a : Int) (k' : IntKind) (b : Int) : Option V :=
  match op with
  | .shl => if b < 0 then none else some (.int k (wordShl k a b))
  | .shr => if b < 0 then none else some (.int k (wordShr k a b))
  | _ => if k ≠ k' then none else
    match op with
    | .add => some (.int k (k.wrap (a + b)))
    | .sub => some (.int k (k.wrap (a - b)))
    | .mul => some (.int k (k.wrap (a * b)))
    | .quo => if b = 0 then none else some (.int k (k.wrap (a.tdiv b)))
    | .rem => if b = 0 then none else some (.int k (a.tmod b))
    | .and => some (.int k (wordAnd k a b))
    | .or => some (.int k (wordOr k a b))
    | .xor => some (.int k (wordXor k a b))
    | .andNot => some (.int k (wordAndNot k a b))
    | .eql => some (.bool (a == b))
    | .neq => some (.bool (a != b))
    | .lss => some (.bool (decide (a < b)))
    | .leq => some (.bool (decide (a ≤ b)))
    | .gtr => some (.bool (decide (a > b)))
    | .geq => some (.bool (decide (a ≥ b)))
    | _ => none
def binStr (op : BinOp) (a b : List UInt8) : Option V :=
  match op with
  | .add => if a.length + b.length ≤ 2147483648 then some (.str (a ++ b)) else none
  | .eql => some (.bool (a == b))
  | .neq => some (.bool (!(a == b)))
  | .lss => some (.bool (Op.bytesLess a b))
  | .leq => some (.bool (Op.bytesLess a b || a == b))
  | .gtr => some (.bool (!(Op.bytesLess a b || a == b)))
  | .geq => some (.bool (!Op.bytesLess a b))
  | _ => none
def intsOf (k : IntKind) : Nat → List V → Option (List Int)
  | 0, _ => some []
  | n + 1, v :: l => match v with
    | .int k' a => if k' = k then (match intsOf k n l with | some r => some (a :: r) | none => none) else none
    | _ => none
  | _ + 1, [] => none
def sameArr (P : Program) (t : TypeId) (a b : List V) : Option Bool := match P.underlying t with
  | some (.array n e) => match P.underlying e with
    | some (.int q) => if P.eqGuardType P.depth t = false ∧ P.cellsOf e = 1 then match intsOf q n a, intsOf q n b with
        | some x, some y => some (x == y)
        | _, _ => none
      else none
    | _ => none
  | _ => none
def notNil (P : Program) (op : BinOp) (t : TypeId) (ty : TypeId) : Option V :=
  if P.cellsOf ty = 0 then match op, P.underlying t with
    | .eql, some (.slice _) => some (.bool false)
    | .neq, some (.slice _) => some (.bool true)
    | _, _ => none
  else none
def bin (P : Program) (op : BinOp) (t : TypeId) (sl : List S) (x y : S) : Option V :=
  match x, y with
  | .t (.p (.int k a)), .t (.p (.int k' b)) => binInt op k a k' b
  | .t (.p (.str a)), .t (.p (.str b)) => binStr op a b
  | .t (.p (.bool a)), .t (.p (.bool b)) => match op, P.underlying t with
    | .eql, some .bool => some (.bool (a == b))
    | .neq, some .bool => some (.bool (!(a == b)))
    | _, _ => none
  | .t (.p .nilp), .t (.p .nilp) => match op, P.underlying t with
    | .eql, some (.pointer _) => some (.bool true)
    | .neq, some (.pointer _) => some (.bool false)
    | _, _ => none
  | .bpt p i j, .t (.p .nilp) => match op, P.underlying t with
    | .eql, some (.pointer _) => some (.bool false)
    | .neq, some (.pointer _) => some (.bool true)
    | _, _ => none
  | .bpt p i j, .bpt p' i' j' => if p = p' ∧ i = i' ∧ j = j' then
      match op, P.underlying t with
      | .eql, some (.pointer e) => if P.cellsOf e = 0 then none else some (.bool true)
      | .neq, some (.pointer e) => if P.cellsOf e = 0 then none else some (.bool false)
      | _, _ => none
    else none
  | .t (.p (.agg a)), .t (.p (.agg b)) => match op with
    | .eql => match sameArr P t a b with
      | some r => some (.bool r)
      | none => none
    | .neq => match sameArr P t a b with
      | some r => some (.bool (!r))
      | none => none
    | _ => none
  | .t (.p (.sl _ _ _ (_ :: _))), .t (.own ty []) => notNil P op t ty
  | .bsl p off len ex, .t (.own ty []) => if 0 < len then notNil P op t ty else none
  | .t (.p .nilf), .t (.p .nilf) => match op, P.underlying t with
    | .eql, some (.func _ _ _) => some (.bool true)
    | .neq, some (.func _ _ _) => some (.bool false)
    | _, _ => none
  | .t (.p (.fn _ _ _)), .t (.p .nilf) => match op, P.underlying t with
    | .eql, some (.func _ _ _) => some (.bool false)
    | .neq, some (.func _ _ _) => some (.bool true)
    | _, _ => none
  | _, _ => none
def un (op : UnOp) : V → Option V
  | .bool b => match op with | .not => some (.bool (!b)) | _ => none
  | .int k n => match op with
    | .neg => some (.int k (k.wrap (0 - n)))
    | .xor => some (.int k (wordXor k (if k.signed then -1 else k.max) n))
    | _ => none
  | _ => none
def byteV (b : UInt8) : V := .int .u8 b.toNat
def bytesV (l : List UInt8) : List V := l.map byteV
def unbyte : V → Option UInt8
  | .int .u8 n => some (UInt8.ofNat n.toNat)
  | _ => none
def unbytes : List V → Option (List UInt8)
  | [] => some []
  | v :: r => match unbyte v, unbytes r with
    | some b, some l => some (b :: l)
    | _, _ => none
def aggT (P : Program) (t : TypeId) : Option Bool := match P.underlying t with | some (.struct _) | some (.array _ _) => some true | some _ => some false | none => none
def conv (P : Program) (src dst : TypeId) (sl : List S) (x : S) : Option S :=
  match P.underlying src, P.underlying dst with
  | some (.int _), some (.int k) => match x with
    | .t (.p (.int _ n)) => some (.v (.int k (k.wrap n)))
    | _ => none
  | some .string, some .string => match x with
    | .t (.p (.str s)) => some (.v (.str s))
    | _ => none
  | some (.slice e), some .string => match P.underlying e with
    | some (.int .u8) => match elemsS P sl x with
      | some (_, es) => match unbytes es with
        | some l => some (.v (.str l))
        | none => none
      | none => none
    | _ => none
  | some (.pointer e), some .unsafePointer => match x with
    | .bpt p 0 0 => match slAt sl p with
      | some (.opt ty cs) => if ty = e ∧ P.cellsOf e = cs.length ∧ cs.length ≠ 0 then some (.bpt p 0 0) else none
      | _ => none
    | _ => none
  | some .unsafePointer, some (.pointer e) => match x with
    | .bpt p 0 0 => match slAt sl p with
      | some (.opt ty cs) => if ty = e ∧ P.cellsOf e = cs.length ∧ cs.length ≠ 0 then some (.bpt p 0 0) else none
      | _ => none
    | _ => none
  | _, _ => none
def loadCell (p : Pl) (j : Nat) : T → Option S
  | .p v => some (.v v)
  | .own ty es => some (.bsl ⟨p.s, p.path ++ [j]⟩ 0 es.length false)
  | .opt ty cs => some (.bpt ⟨p.s, p.path ++ [j]⟩ 0 0)
  | .ifc u (.opt ty cs) => some (.bfc u ⟨p.s, p.path ++ [j]⟩)
  | .self => some (.bpt p 0 0)
  | _ => none
def load (P : Program) (t : TypeId) (sl : List S) (s : S) : Option S :=
  match s with
  | .t (.p (.ref sn cs)) =>
    match aggT P t with
    | some true => if P.cellsOf t ≤ cs.length ∧ 0 < P.cellsOf t then some (.v (.agg (cs.take (P.cellsOf t)))) else none
    | some false => match cs with | v :: _ => some (.v v) | [] => none
    | none => none
  | .bpt p i j => match slAt sl p with
    | some (.own ty es) => match es[i]? with
      | some e => match aggT P t with
        | some true => if j + P.cellsOf t ≤ e.cells.length ∧ 0 < P.cellsOf t then some (.v (.agg ((e.cells.drop j).take (P.cellsOf t)))) else none
        | some false => match e.cells[j]? with | some v => some (.v v) | none => none
        | none => none
      | none => none
    | some (.opt ty cs) =>
      match aggT P t with
      | some true => if j + P.cellsOf t ≤ cs.length ∧ 0 < P.cellsOf t then (match elemsS.T.pures ((cs.drop j).take (P.cellsOf t)) with | some l => some (.v (.agg l)) | none => none) else none
      | some false => match cs[j]? with | some x => loadCell p j x | none => none
      | none => none
    | _ => none
  | _ => none
def fieldAddr (P : Program) (t : TypeId) (sl : List S) (s : S) (f : Nat) : Option S :=
  match P.underlying t with
  | some (.struct fs) => match fs[f]? with
    | some fd => if P.cellsOf fd.type = 0 then none else match s with
      | .bpt p i j => match slAt sl p with
        | some (.own ty es) => if j + fd.offset < P.cellsOf ty then some (.bpt p i (j + fd.offset)) else none
        | some (.opt ty cs) => if j + fd.offset < cs.length then some (.bpt p i (j + fd.offset)) else none
        | _ => none
      | .t (.p (.ref sn cs)) => if fd.offset ≤ cs.length then some (.v (.ref sn (cs.drop fd.offset))) else none
      | _ => none
    | none => none
  | _ => none
def indexAddr (P : Program) (t : TypeId) (sl : List S) (s : S) (ix : Int) : Option S :=
  match P.underlying t with
  | some (.slice e) => match s with
    | .bsl p off len _ => match slAt sl p with
      | some (.own ty es) => if ty = e ∧ 0 ≤ ix ∧ ix < (len : Int) then some (.bpt p (off + ix.toNat) 0) else none
      | _ => none
    | .t (.p (.sl sn _ sz es)) => if sz = P.cellsOf e ∧ 0 < sz ∧ 0 ≤ ix then (match es[ix.toNat]? with | some x => some (.v (.ref sn x.cells)) | none => none) else none
    | .bar p j sz len => if sz = P.cellsOf e ∧ 0 < sz ∧ 0 ≤ ix ∧ ix < (len : Int) then some (.bpt p 0 (j + ix.toNat * sz)) else none
    | _ => none
  | some (.array n e) => if 0 ≤ ix ∧ ix < (n : Int) ∧ 0 < P.cellsOf e then
      match s with
      | .bpt p i j => match slAt sl p with
        | some (.own ty es) => if j + ix.toNat * P.cellsOf e < P.cellsOf ty then some (.bpt p i (j + ix.toNat * P.cellsOf e)) else none
        | some (.opt ty cs) => if j + ix.toNat * P.cellsOf e < cs.length then some (.bpt p i (j + ix.toNat * P.cellsOf e)) else none
        | _ => none
      | .t (.p (.ref sn cs)) => if ix.toNat * P.cellsOf e ≤ cs.length then some (.v (.ref sn (cs.drop (ix.toNat * P.cellsOf e)))) else none
      | _ => none
    else none
  | _ => none
def partV (P : Program) (t : TypeId) (cs : List V) (off : Nat) : Option V :=
  match aggT P t with
  | some true => if off + P.cellsOf t ≤ cs.length ∧ 0 < P.cellsOf t then some (.agg ((cs.drop off).take (P.cellsOf t))) else none
  | some false => cs[off]?
  | none => none
def indexOp (P : Program) (t : TypeId) (x : V) (ix : Int) : Option V :=
  match P.underlying t, x with
  | some .string, .str s => if 0 ≤ ix then (match s[ix.toNat]? with | some b => some (byteV b) | none => none) else none
  | some (.array n e), .agg cs => if 0 ≤ ix ∧ ix < (n : Int) then partV P e cs (ix.toNat * P.cellsOf e) else none
  | _, _ => none
def fieldOp (P : Program) (t : TypeId) (x : V) (f : Nat) : Option V :=
  match P.underlying t, x with
  | some (.struct fs), .agg cs => match fs[f]? with
    | some fd => partV P fd.type cs fd.offset
    | none => none
  | _, _ => none
def bnd (sl : List S) (d : Nat) : Option Operand → Option Nat
  | none => some d
  | some x => match pv sl x with
    | some (.int _ n) => if 0 ≤ n then some n.toNat else none
    | _ => none
def arrayAt (P : Program) (t : TypeId) (s : S) : Option S :=
  match P.underlying t, s with
  | some (.array n e), .t (.p (.sl sn _ sz es)) => if sz = P.cellsOf e ∧ 0 < sz ∧ 0 < n ∧ n ≤ es.length then some (.v (.ref sn ((es.take n).flatMap V.cells))) else none
  | some (.array n e), .bar p j sz len => if sz = P.cellsOf e ∧ 0 < sz ∧ 0 < n ∧ n ≤ len then some (.bpt p 0 j) else none
  | _, _ => none
def sliceOp (P : Program) (t : TypeId) (sl : List S) (s : S) (lo hi mx : Option Operand) : Option S :=
  match P.underlying t with
  | some .string => match s with
    | .t (.p (.str x)) => if mx.isSome then none else match bnd sl 0 lo, bnd sl x.length hi with
      | some l, some h => if l ≤ h ∧ h ≤ x.length then some (.v (.str ((x.drop l).take (h - l)))) else none
      | _, _ => none
    | _ => none
  | some (.slice e) => match s with
    | .t (.p (.sl sn ex sz es)) => match bnd sl 0 lo, bnd sl es.length hi, bnd sl es.length mx with
      | some l, some h, some m => if l ≤ h ∧ h ≤ m ∧ m ≤ es.length ∧ (sz = P.cellsOf e ∨ es = []) ∧ 0 < P.cellsOf e then
          some (.v (.sl sn ((ex || mx.isSome) && h == m) sz ((es.drop l).take (h - l)))) else none
      | _, _, _ => none
    | .bsl p off len ex => match slAt sl p with
      | some (.own ty es) => match bnd sl 0 lo, bnd sl len hi, bnd sl len mx with
        | some l, some h, some m => if l ≤ h ∧ h ≤ m ∧ m ≤ len ∧ (ty = e ∨ es = []) ∧ 0 < P.cellsOf e then
            some (.bsl p (off + l) (h - l) ((ex || mx.isSome) && h == m)) else none
        | _, _, _ => none
      | _ => none
    | .bar p j sz len => match bnd sl 0 lo, bnd sl len hi with
      | some l, some h => if mx.isNone ∧ l ≤ h ∧ h ≤ len ∧ sz = P.cellsOf e ∧ 0 < sz then some (.bar p (j + l * sz) sz (h - l)) else none
      | _, _ => none
    | _ => none
  | some (.array n e) => match s with
    | .bpt p i j => match slAt sl p with
      | some (.opt ty cs) => match bnd sl 0 lo, bnd sl n hi with
        | some l, some h => if mx.isNone ∧ l ≤ h ∧ h ≤ n ∧ j + n * P.cellsOf e ≤ cs.length ∧ 0 < P.cellsOf e then some (.bar p (j + l * P.cellsOf e) (P.cellsOf e) (h - l)) else none
        | _, _ => none
      | _ => none
    | .t (.p (.ref sn cs)) => match bnd sl 0 lo, bnd sl n hi with
      | some l, some h => if mx.isNone ∧ l ≤ h ∧ h ≤ n ∧ n = cs.length ∧ P.cellsOf e = 1 ∧ sn = false then some (.v (.sl sn false 1 ((cs.drop l).take (h - l)))) else none
      | _, _ => none
    | _ => none
  | _ => none
def lenS (P : Program) (t : TypeId) (sl : List S) (s : S) : Option Nat :=
  match P.underlying t with
  | some .string => match s with | .t (.p (.str x)) => some x.length | _ => none
  | some (.array n _) => some n
  | some (.pointer a) => match P.underlying a with | some (.array n _) => some n | _ => none
  | some (.slice _) => match s with
    | .bsl p off len _ => some len
    | .bar p j sz len => some len
    | .t (.p (.sl _ _ _ es)) => some es.length
    | .t (.p (.lenO n)) => some n
    | .t (.own ty []) => some 0
    | _ => none
  | _ => none
def minL : List Int → Option Int
  | [] => none
  | x :: r => some (r.foldl (fun a b => if b < a then b else a) x)
def maxL : List Int → Option Int
  | [] => none
  | x :: r => some (r.foldl (fun a b => if b > a then b else a) x)
def ints (sl : List S) : List Operand → Option (IntKind × List Int)
  | [] => none
  | [x] => match pv sl x with | some (.int k n) => some (k, [n]) | _ => none
  | x :: r => match pv sl x, ints sl r with
    | some (.int k n), some (k', l) => if k = k' then some (k, n :: l) else none
    | _, _ => none
def lookA (P : Program) (sl : List S) : Op → Option S
  | .move x => match rd sl x with
    | some (.t (.p v)) => some (.v v)
    | some (.t _) => none
    | r => r
  | .pick c a b => match pv sl c with
    | some (.bool t) => match (if t then pv sl a else pv sl b) with
      | some v => some (.v v)
      | none => none
    | _ => none
  | .nilCheck x => match rd sl x with
    | some (.bpt p i j) => some (.bpt p i j)
    | some (.t (.p (.ref sn cs))) => some (.v (.ref sn cs))
    | _ => none
  | .binOp op t x y _ => match rd sl x, rd sl y with
    | some a, some b => match bin P op t sl a b with
      | some v => some (.v v)
      | none => none
    | _, _ => none
  | .unOp op _ x => match pv sl x with
    | some a => match un op a with
      | some v => some (.v v)
      | none => none
    | none => none
  | .convert s d x => match rd sl x with
    | some a => conv P s d sl a
    | none => none
  | .load t a => match rd sl a with
    | some s => load P t sl s
    | none => none
  | .fieldAddr t x f => match rd sl x with
    | some s => fieldAddr P t sl s f
    | none => none
  | .indexAddr t x i => match rd sl x, pv sl i with
    | some s, some (.int _ n) => indexAddr P t sl s n
    | _, _ => none
  | .index t x i => match pv sl x, pv sl i with
    | some v, some (.int _ n) => match indexOp P t v n with
      | some u => some (.v u)
      | none => none
    | _, _ => none
  | .field t x f => match pv sl x with
    | some v => match fieldOp P t v f with
      | some u => some (.v u)
      | none => none
    | none => none
  | .slice t x lo hi mx => if mx.isSome && hi.isNone then none else match rd sl x with
    | some s => sliceOp P t sl s lo hi mx
    | none => none
  | .sliceToArrayPointer t x => match rd sl x with
    | some s => arrayAt P t s
    | none => none
  | .makeFunc (.func f) first captured => if first.isEmpty ∧ captured.isEmpty then some (.v (.fn false f [])) else none
  | .call { callee := .builtin .len, args := args, argTypes := ts } => match args.toList, ts.toList with
    | [x], [t] => match rd sl x with
      | some s => match lenS P t sl s with
        | some n => some (.v (.int .i64 n))
        | none => none
      | none => none
    | _, _ => none
  | .call { callee := .builtin .min, args := args, argTypes := _ } => match ints sl args.toList with
    | some (k, l) => match minL l with | some n => some (.v (.int k n)) | none => none
    | none => none
  | .call { callee := .builtin .max, args := args, argTypes := _ } => match ints sl args.toList with
    | some (k, l) => match maxL l with | some n => some (.v (.int k n)) | none => none
    | none => none
  | .call { callee := .builtin .unsafeSliceData, args := args, argTypes := _ } => match args.toList with
    | [x] => match rd sl x with
      | some (.bsl p 0 (n + 1) _) => some (.bpt p 0 0)
      | _ => none
    | _ => none
  | _ => none
end Go.Proofs.Ytffofdfikmpanaa.A
namespace Go.Proofs.Ytffofdfikmpanaa.A
set_option linter.unusedVariables false
def S.flat : S → Bool
  | .t (.own _ _) | .t (.opt _ _) | .t (.ifc _ _) | .t (.clo _ _) => false
  | _ => true
def S.okB (d : Nat) : S → Bool
  | .bsl p _ _ _ | .bpt p _ _ | .bar p _ _ _ | .bfc _ p => p.s != d
  | .bfn _ caps => caps.all fun p => p.s != d
  | .t _ => true
def setD (sl : List S) (d : Nat) (s : S) : Option (List S) :=
  match sl[d]? with
  | none => none
  | some o => if s.okB d then some (if o.flat then sl.set d s else (killP ⟨d, []⟩ false sl).set d s) else none
def putD (sl : List S) (dst : Option Nat) (s : S) : Option (List S) :=
  match dst with
  | some d => setD sl d s
  | none => some sl
def putN (sl : List S) (p : Pl) (y : T) (k : Bool) : Option (List S) :=
  match sl[p.s]? with
  | some (.t x) => some ((killP p k sl).set p.s (.t (T.put y p.path x)))
  | _ => none
def V.tag (P : Program) (t : TypeId) : V → V
  | .sl sn ex sz es => match P.underlying t with
    | some (.slice e) => .sl sn false (if sz = 0 ∧ es = [] then P.cellsOf e else sz) es
    | _ => .sl sn ex sz es
  | v => v
def V.lax (P : Program) (t : TypeId) : V → V
  | .sl sn ex sz es => match P.underlying t with
    | some (.slice e) => .sl true false (if sz = 0 ∧ es = [] then P.cellsOf e else sz) es
    | _ => .sl sn ex sz es
  | v => v
def T.tag (P : Program) (t : TypeId) : T → T
  | .p v => .p (v.tag P t)
  | .own ty es => if ty = nilTy ∧ es = [] ∧ P.cellsOf ty = 0 then (match P.underlying t with
    | some (.slice e) => if 0 < P.cellsOf e then .own e [] else .own ty es
    | _ => .own ty es) else .own ty es
  | x => x
def tk (P : Program) (sl : List S) : Operand → Option (T × List S)
  | .const v => match konst v with
    | some x => some (x, sl)
    | none => none
  | .func f => some (.p (.fn false f []), sl)
  | .global _ => none
  | .tmp t => match sl[t]? with
    | some (.t (.p v)) => some (.p v, sl)
    | some (.t .dead) => none
    | some (.t .self) => none
    | some (.t x) => some (x, (killP ⟨t, []⟩ false sl).set t (.t .dead))
    | some (.bsl p off len ex) => match slAt sl p with
      | some (.own ty es) => match putN sl p (.p (.sl false false (P.cellsOf ty) es)) false with
        | some sl' => some (.p (.sl false ex (P.cellsOf ty) ((es.drop off).take len)), sl')
        | none => none
      | _ => none
    | some (.bar p j 1 len) => match slAt sl p with
      | some (.opt ty cs) => match elemsS.T.pures cs with
        | some l => if V.stabL l then match putN sl p (.p (.ref false l)) false with
            | some sl' => some (.p (.sl false false 1 ((l.drop j).take len)), sl')
            | none => none
          else none
        | none => none
      | _ => none
    | _ => none
def tkV (P : Program) (sl : List S) (x : Operand) : Option (V × List S) :=
  match tk P sl x with
  | some (.p v, sl') => if v.stab then some (v, sl') else none
  | some (.own ty es, sl') => some (.sl false false (P.cellsOf ty) es, sl')
  | _ => none
def tkT (P : Program) (t : TypeId) (sl : List S) (x : Operand) : Option (T × List S) :=
  match tk P sl x with
  | some (y, sl') => some (y.tag P t, sl')
  | none => none
def tkVT (P : Program) (t : TypeId) (sl : List S) (x : Operand) : Option (V × List S) :=
  match tkV P sl x with
  | some (v, sl') => some (v.tag P t, sl')
  | none => none
def tkVs (P : Program) (ty : Nat → TypeId) (sl : List S) : List (Nat × Operand) → Option (List (Nat × V) × List S)
  | [] => some ([], sl)
  | (i, x) :: r => match tkVT P (ty i) sl x with
    | some (v, sl') => match tkVs P ty sl' r with
      | some (l, sl'') => some ((i, v) :: l, sl'')
      | none => none
    | none => none
def partTy (P : Program) (t : TypeId) (i : Nat) : TypeId := match P.underlying t with
  | some (.struct fs) => match fs[i]? with
    | some f => f.type
    | none => 0
  | some (.array _ e) => e
  | some (.slice e) => e
  | _ => 0
def zeroOf (P : Program) (t : TypeId) : Option Value := (P.info? t).bind (·.zero)
def cellTys (P : Program) : Nat → TypeId → List TypeId
  | 0, t => [t]
  | n + 1, t => match P.underlying t with
    | some (.struct fs) => fs.toList.flatMap fun f => cellTys P n f.type
    | some (.array k e) => if k ≤ 4096 then (List.replicate k (cellTys P n e)).flatten else [t]
    | _ => [t]
def tagL (P : Program) : List TypeId → List V → List V
  | t :: ts, v :: vs => v.tag P t :: tagL P ts vs
  | _, vs => vs
def tagTs (P : Program) : List TypeId → List T → List T
  | t :: ts, v :: vs => v.tag P t :: tagTs P ts vs
  | _, vs => vs
def nilOp (P : Program) (o : Oper) : Option T :=
  match o.op with
  | .move (.const (.slice none 0 0)) | .assign (.const (.slice none 0 0)) => match P.underlying o.type with
    | some (.slice e) => if 0 < P.cellsOf e then some (.own e []) else none
    | _ => none
  | _ => none
def zV : Value → Option V
  | .slice none 0 0 => some (.sl false true 0 [])
  | v => kV v
def zVs : List Value → Option (List V)
  | [] => some []
  | v :: r => match zV v, zVs r with
    | some x, some y => some (x :: y)
    | _, _ => none
def zeroV (P : Program) (t : TypeId) : Option V :=
  match zeroOf P t with
  | some (.agg cs) => (zVs cs.toList).map fun l => .agg (tagL P (cellTys P 8 t) l)
  | some v => (zV v).map (V.tag P t)
  | none => none
def splice (cs : List V) (j : Nat) (vs : List V) : List V := cs.take j ++ vs ++ cs.drop (j + vs.length)
def fillV (place : Nat → Option (Nat × Nat)) : List V → List (Nat × V) → Option (List V)
  | cs, [] => some cs
  | cs, (i, v) :: r => match place i with
    | some (off, size) => if v.cells.length = size ∧ off + size ≤ cs.length then fillV place (splice cs off v.cells) r else none
    | none => none
def buildOp (P : Program) (t : TypeId) (parts : List (Nat × V)) : Option V :=
  match zeroV P t, P.underlying t with
  | some (.agg z), some (.struct fs) => if fs.all fun f => (P.info? f.type).isSome then (fillV (fun i => (fs[i]?).map fun f => (f.offset, P.cellsOf f.type)) z parts).map .agg else none
  | some (.agg z), some (.array n e) => if (P.info? e).isSome then (fillV (fun i => some (i * P.cellsOf e, P.cellsOf e)) z parts).map .agg else none
  | _, _ => none
def oneF (P : Program) (t : TypeId) : Bool := match P.underlying t, zeroOf P t with
  | some (.struct fs), some z => fs.size == 1 && (match fs[0]? with
    | some f => f.offset == 0 && (P.info? f.type).isSome && P.cellsOf f.type == 1
    | none => false) && z.cells.size == 1
  | _, _ => false
def zeroOk (P : Program) (e : TypeId) : Bool := match zeroOf P e with | some z => z.cells.size == P.cellsOf e | none => false
def setParts (sz : Nat) : List V → List (Nat × V) → Option (List V)
  | es, [] => some es
  | es, (i, v) :: r => if i < es.length ∧ v.cells.length = sz then setParts sz (es.set i v) r else none
def elemLike (P : Program) (e : TypeId) (v : V) : Bool := match v with
  | .agg _ => aggT P e == some true
  | _ => aggT P e == some false
def wellEl (P : Program) (e : TypeId) (v : V) : Bool := v.cells.length == P.cellsOf e && elemLike P e v && v.cells.all V.one
def storeEl (e : V) (j : Nat) (vs : List V) : V := match e with
  | .agg cs => .agg (splice cs j vs)
  | _ => match vs with | [v] => v | _ => e
def V.isAgg : V → Bool
  | .agg _ => true
  | _ => false
def T.oneC : T → Bool
  | .p v => v.one
  | .own _ _ | .opt _ _ | .self | .ifc _ _ | .clo _ _ => true
  | _ => false
def storeOne (P : Program) (t : TypeId) (sl : List S) (p : Pl) (j : Nat) (x : Operand) : Option (List S) :=
  match tkT P t sl x with
  | some (y, sl') => match slAt sl' p with
    | some (.opt ty' cs') => if y.oneC ∧ j < cs'.length then putN sl' p (.opt ty' (cs'.set j y)) true else none
    | _ => none
  | none => none
def storeAt (P : Program) (t : TypeId) (sl : List S) (p : Pl) (i j : Nat) (x : Operand) : Option (List S) :=
  match slAt sl p with
  | some (.own ty es) => match tkVT P t sl x with
    | some (v, sl') => match slAt sl' p with
      | some (.own ty' es') => match es'[i]? with
        | some e => if ty' = ty ∧ v.cells.length = P.cellsOf t ∧ j + P.cellsOf t ≤ P.cellsOf ty ∧ v.cells.all V.one ∧ aggT P t = some v.isAgg ∧ 0 < P.cellsOf t then
            putN sl' p (.own ty (es'.set i (storeEl e j v.cells))) true else none
        | none => none
      | _ => none
    | none => none
  | some (.opt ty cs) =>
    if aggT P t = some true ∧ 0 < P.cellsOf t then match tk P sl x with
      | some (.p (.agg vs), sl') => match slAt sl' p with
        | some (.opt ty' cs') => if vs.length = P.cellsOf t ∧ j + vs.length ≤ cs'.length then
            putN sl' p (.opt ty' (cs'.take j ++ vs.map .p ++ cs'.drop (j + vs.length))) true else none
        | _ => none
      | some (.agg ts, sl') => match slAt sl' p with
        | some (.opt ty' cs') => if ts.length = P.cellsOf t ∧ j + ts.length ≤ cs'.length ∧ ts.all T.oneC then
            putN sl' p (.opt ty' (cs'.take j ++ ts ++ cs'.drop (j + ts.length))) true else none
        | _ => none
      | _ => none
    else if aggT P t = some false ∧ P.cellsOf t = 1 then
      match (match x with | .tmp u => sl[u]? | _ => none) with
      | some (.bpt q 0 0) => if q = p ∧ j < cs.length then putN sl p (.opt ty (cs.set j .self)) true else none
      | some (.bsl q off len ex) =>
        if q = ⟨p.s, p.path ++ [j]⟩ then match cs[j]? with
          | some (.own ty' es) => putN sl p (.opt ty (cs.set j (.own ty' ((es.drop off).take len)))) true
          | _ => none
        else storeOne P t sl p j x
      | _ => storeOne P t sl p j x
    else none
  | _ => none
def assignOp (P : Program) (sl : List S) (x : Operand) (d : Nat) : Option (List S) :=
  match (match x with | .tmp u => sl[u]? | _ => none) with
  | some (.bsl p off len ex) =>
    if p = ⟨d, []⟩ then match sl[d]? with
      | some (.t (.own ty es)) => some ((killP ⟨d, []⟩ false sl).set d (.t (.own ty ((es.drop off).take len))))
      | _ => none
    else match tk P sl x with
      | some (y, sl') => setD sl' d (.t y)
      | none => none
  | some (.bpt p i j) => setD sl d (.bpt p i j)
  | some (.bar p j sz len) => setD sl d (.bar p j sz len)
  | some (.bfc u p) => setD sl d (.bfc u p)
  | some (.bfn f caps) => setD sl d (.bfn f caps)
  | _ => match tk P sl x with
    | some (y, sl') => setD sl' d (.t y)
    | none => none
def srcA (P : Program) (sl : List S) (y : Operand) : Option (Nat × List V) :=
  match rd sl y with
  | some (.t (.p (.str s))) => some (1, bytesV s)
  | some s => elemsS P sl s
  | none => none
def noInt (P : Program) (t : TypeId) : Bool := match P.underlying t with | some (.slice _) => true | some .string => true | _ => false
def srcM (P : Program) (e u : TypeId) (sl : List S) (y : Operand) : Option (Nat × List V) :=
  if noInt P u then srcA P sl y else match P.underlying u with
    | some (.int _) => match pv sl y, zeroV P e with
      | some (.int _ n), some z => if 0 ≤ n ∧ n ≤ 2147483648 ∧ wellEl P e z = true ∧ 0 < P.cellsOf e then some (P.cellsOf e, List.replicate n.toNat z) else none
      | _, _ => none
    | _ => none
def appendOp (P : Program) (e u : TypeId) (sl : List S) (x y : Operand) (dst : Option Nat) : Option (List S) :=
  match srcM P e u sl y with
  | some (sz2, es2) =>
    if es2 = [] ∨ sz2 = P.cellsOf e then
      let fin (sl' : List S) (es : List V) : Option (List S) :=
        if es.length + es2.length ≤ 2147483648 ∧ P.bytesOf e ≤ 65536 ∧ 0 < P.cellsOf e ∧ zeroOk P e then putD sl' dst (.t (.own e (es ++ es2))) else none
      match x with
      | .const (.slice none 0 0) => fin sl []
      | .tmp t => match sl[t]? with
        | some (.t (.own ty es)) => if ty = e ∨ (es = [] ∧ P.cellsOf ty = 0) then fin ((killP ⟨t, []⟩ false sl).set t (.t .dead)) es else none
        | some (.bsl p off len ex) => match slAt sl p with
          | some (.own ty es) => if ty = e ∨ (es = [] ∧ P.cellsOf ty = 0) then match putN sl p (.p (.lenO es.length)) false with
              | some sl' => fin sl' ((es.drop off).take len)
              | none => none
            else none
          | _ => none
        | some (.t (.p (.sl sn true sz es))) => if (es = [] ∨ sz = P.cellsOf e) ∧ 0 < P.cellsOf e then
            (if es2 = [] then putD sl dst (.v (.sl sn true sz es)) else fin sl es) else none
        | _ => none
      | _ => none
    else none
  | none => none
def appendF (P : Program) (e : TypeId) (sl : List S) (x y : Operand) (dst : Option Nat) : Option (List S) :=
  match srcA P sl y with
  | some (sz2, es2) =>
    if es2 = [] ∨ sz2 = P.cellsOf e then
      match x with
      | .tmp t => match sl[t]? with
        | some (.t (.p (.sl false true sz es))) => if ((es = [] ∨ sz = P.cellsOf e) ∧ 0 < P.cellsOf e) ∧ es.length + es2.length ≤ 2147483648 ∧ P.bytesOf e ≤ 65536 ∧ 0 < P.cellsOf e ∧ zeroOk P e then
            putD sl dst (.v (.sl false false (P.cellsOf e) (es ++ es2))) else none
        | _ => none
      | _ => none
    else none
  | none => none
def copyOp (P : Program) (e : TypeId) (sl : List S) (x y : Operand) (dst : Option Nat) : Option (List S) :=
  match srcA P sl y with
  | some (sz2, es2) =>
    match rd sl x with
    | some (.bsl p off len ex) => match slAt sl p with
      | some (.own ty es) =>
        if (min len es2.length = 0 ∨ (sz2 = P.cellsOf ty ∧ P.cellsOf ty = P.cellsOf e)) ∧ 0 < P.cellsOf e then
          match putN sl p (.own ty (es.take off ++ es2.take (min len es2.length) ++ es.drop (off + min len es2.length))) true with
          | some sl' => putD sl' dst (.v (.int .i64 (min len es2.length : Nat)))
          | none => none
        else none
      | _ => none
    | some (.bar p j 1 len) => match slAt sl p with
      | some (.opt ty cs) =>
        if (min len es2.length = 0 ∨ sz2 = 1) ∧ P.cellsOf e = 1 ∧ es2.all V.one then
          match putN sl p (.opt ty (cs.take j ++ (es2.take (min len es2.length)).map .p ++ cs.drop (j + min len es2.length))) true with
          | some sl' => putD sl' dst (.v (.int .i64 (min len es2.length : Nat)))
          | none => none
        else none
      | _ => none
    | _ => none
  | none => none
inductive HT where
  | z
  | n (pre post : List (Nat × Bool)) (l r : HT)
def HT.pre : HT → List (Nat × Bool) | .z => [] | .n p _ _ _ => p
def HT.post : HT → List (Nat × Bool) | .z => [] | .n _ p _ _ => p
def HT.l : HT → HT | .z => .z | .n _ _ x _ => x
def HT.r : HT → HT | .z => .z | .n _ _ _ x => x
def HT.ok (n : Nat) : HT → Bool
  | .z => true
  | .n p q l r => (p.all fun x => !x.2 || decide (x.1 < n)) && (q.all fun x => !x.2 || decide (x.1 < n)) && l.ok n && r.ok n
structure Hints where
  /-- What is told beside a function's code. -/
  ht : FuncId → HT := fun _ => .z
  /-- How a list is handed over: 0 as it stands, 1 to be changed, 2 frozen. -/
  mode : FuncId → Nat → Nat := fun _ _ => 0
  /-- Loads of a whole struct that move what it owns. -/
  mv : FuncId → Nat → Bool := fun _ _ => false
  /-- Types whose nil lists stay nil where a variable is made. -/
  raw : TypeId → Bool := fun _ => false
  /-- Slots that a list is handed over to. -/
  give : FuncId → Nat → Bool := fun _ _ => false
  /-- Functions that answer what they are given. -/
  same : FuncId → Bool := fun _ => false
  /-- Such functions that answer otherwise: 1 words added with what is carried, 2 taken away. -/
  nat : FuncId → Nat := fun _ => 0
  /-- What a function that is ranged over tells, one item behind the other. -/
  iter : FuncId → List V → Option (List (List V)) := fun _ _ => none
  /-- The same, of a closure that owns what it captured. -/
  iterO : FuncId → T → Option (List (List V)) := fun _ _ => none
  /-- Functions whose closures own what they captured. -/
  ownC : FuncId → Bool := fun _ => false
  /-- Functions whose loops are reckoned turn by turn: so many of them at most. -/
  un : FuncId → Nat := fun _ => 0
  /-- Structs whose nil lists are owned where they are built of nothing. -/
  zo : TypeId → Bool := fun _ => false
def Hints.moves (H : Hints) (me : FuncId) : Option Nat → Bool
  | some d => H.mv me d
  | none => false
inductive Vw where
  | pt
  | sl (off len : Nat)
inductive Arg where
  | v (x : V)
  | mv (x : T)
  | io (x : T) (w : Vw)
abbrev Oracle := FuncId → List Arg → Option (T × List T)
def tkO (P : Program) (sl : List S) (t : Nat) : Option (T × List S) :=
  match sl[t]? with
  | some (.bsl p off len ex) => match slAt sl p with
    | some (.own ty es) => match putN sl p .dead false with
      | some sl' => some (.own ty ((es.drop off).take len), sl')
      | none => none
    | _ => none
  | _ => tk P sl (.tmp t)
def giveOp (P : Program) (sl : List S) (t d : Nat) : Option (List S) :=
  match tkO P sl t with
  | some (y, sl') => setD sl' d (.t y)
  | none => none
def prepA (P : Program) (H : Hints) (f : FuncId) : List S → Nat → List Operand → Option (List S)
  | sl, _, [] => some sl
  | sl, k, x :: r => match x with
    | .tmp t =>
      if H.mode f k = 2 then match tkV P sl (.tmp t) with
        | some (v, sl') => match setD sl' t (.t (.p v)) with
          | some sl'' => prepA P H f sl'' (k + 1) r
          | none => none
        | none => none
      else if H.mode f k = 3 then match tkO P sl t with
        | some (y, sl') => match setD sl' t (.t y) with
          | some sl'' => prepA P H f sl'' (k + 1) r
          | none => none
        | none => none
      else prepA P H f sl (k + 1) r
    | _ => prepA P H f sl (k + 1) r
def ptype (P : Program) (f : FuncId) (k : Nat) : TypeId := match P.funcs[f]? with
  | some fn => fn.params.getD k 0
  | none => 0
structure Pass where
  arg : Arg
  hand : Option Pl := none
  look : Option Nat := none
def mvSlot (m : Nat) (x : Operand) : Option Nat := if m = 3 then (match x with | .tmp t => some t | _ => none) else none
def laxV (P : Program) (t : TypeId) (m : Nat) (v : V) : V := if m = 0 then v.lax P t else v.tag P t
def readA (P : Program) (t : TypeId) (sl : List S) (m : Nat) (x : Operand) : Option Pass :=
  match mvSlot m x with
  | some t => match sl[t]? with
    | some (.t y) => some ⟨.mv y, some ⟨t, []⟩, none⟩
    | _ => none
  | none => match rd sl x with
    | some (.t (.p v)) => some ⟨.v (laxV P t m v), none, none⟩
    | some (.t (.own ty [])) => some ⟨.v (laxV P t m (.sl false false 0 [])), none, none⟩
    | some (.bpt p 0 0) => match slAt sl p with
      | some (.opt ty cs) => some ⟨.io (.opt ty cs) .pt, some p, none⟩
      | _ => none
    | some (.bsl p off len ex) => match slAt sl p with
      | some (.own ty es) => if m = 1 then some ⟨.io (.own ty es) (.sl off len), some p, none⟩
        else some ⟨.v (.sl true false (P.cellsOf ty) ((es.drop off).take len)), none, some p.s⟩
      | _ => none
    | some (.bar p j 1 len) => match elemsS P sl (.bar p j 1 len) with
      | some (sz, es) => some ⟨.v (.sl true false sz es), none, some p.s⟩
      | none => none
    | _ => none
def readAll (P : Program) (H : Hints) (f : FuncId) (sl : List S) : Nat → List Operand → Option (List Pass)
  | _, [] => some []
  | k, x :: r => match readA P (ptype P f k) sl (H.mode f k) x with
    | some a => match readAll P H f sl (k + 1) r with
      | some l => some (a :: l)
      | none => none
    | none => none
def T.likeB : T → T → Bool
  | .own ty es, .own ty' es' => ty == ty' && es.length == es'.length
  | .opt ty cs, .opt ty' cs' => ty == ty' && cs.length == cs'.length
  | _, _ => false
def backs (sl : List S) : List Pass → List T → Option (List S)
  | [], [] => some sl
  | ⟨.io _ _, some p, _⟩ :: ps, x :: xs => match slAt sl p with
    | some y => if y.likeB x then match putN sl p x true with
        | some sl' => backs sl' ps xs
        | none => none
      else none
    | none => none
  | ⟨.mv _, some p, _⟩ :: ps, _ :: xs => match putN sl p .dead false with
    | some sl' => backs sl' ps xs
    | none => none
  | ⟨.v _, none, _⟩ :: ps, _ :: xs => backs sl ps xs
  | _, _ => none
def distinct : List Nat → Bool
  | [] => true
  | a :: r => !r.contains a && distinct r
def apartB (l : List Pass) : Bool :=
  distinct (l.filterMap fun a => a.hand.map (·.s)) && l.all fun a => match a.look with | some s => !(l.any fun b => match b.hand with | some p => p.s == s | none => false) | none => true
def slotsOf (P : Program) (f : FuncId) : Option Nat :=
  match P.funcs[f]? with
  | some fn => if fn.body.isSome && fn.name != "runtime.NumGoroutine" then some fn.ntmps else none
  | none => none
def fitsB (P : Program) (f : FuncId) (k : Nat) : Bool := match slotsOf P f with | some n => decide (k ≤ n) | none => false
def callPs (P : Program) (K : Oracle) (sl : List S) (f : FuncId) (ps : List Pass) (dst : Option Nat) : Option (List S) :=
  if apartB ps && fitsB P f ps.length then match K f (ps.map (·.arg)) with
    | some (r, outs) => match backs sl ps outs with
      | some sl2 => putD sl2 dst (.t r)
      | none => none
    | none => none
  else none
def adc (x y c : Int) : Int := (x + y + c) % 18446744073709551616
def adcC (x y c : Int) : Int := (x + y + c) / 18446744073709551616
def sbb (x y c : Int) : Int := (x - y - c) % 18446744073709551616
def sbbC (x y c : Int) : Int := if x < y + c then 1 else 0
def carryV (n : Nat) (u v c : V) : Option T :=
  match u, v, c with
  | .int .u64 x, .int .u64 y, .int .u64 z =>
    if n = 1 then (if 0 ≤ x ∧ 0 ≤ y ∧ 0 ≤ z ∧ z ≤ 1 then some (.tup [.p (.int .u64 (adc x y z)), .p (.int .u64 (adcC x y z))]) else none)
    else if n = 2 then (if 0 ≤ x ∧ 0 ≤ y ∧ y < 18446744073709551616 ∧ 0 ≤ z ∧ z ≤ 1 then some (.tup [.p (.int .u64 (sbb x y z)), .p (.int .u64 (sbbC x y z))]) else none)
    else none
  | _, _, _ => none
def callOp (P : Program) (K : Oracle) (H : Hints) (sl : List S) (f : FuncId) (args : List Operand) (more : List V) (dst : Option Nat) : Option (List S) :=
  if H.same f && more.isEmpty then match args with
    | [x] => if H.nat f = 0 then match rd sl x with
      | some (.t (.p v)) => putD sl dst (.v v)
      | some (.bpt p i j) => putD sl dst (.bpt p i j)
      | _ => none
      else none
    | [x, y, z] => match rd sl x with
      | some (.t (.p u)) => match rd sl y with
        | some (.t (.p v)) => match rd sl z with
          | some (.t (.p c)) => match carryV (H.nat f) u v c with
            | some r => putD sl dst (.t r)
            | none => none
          | _ => none
        | _ => none
      | _ => none
    | _ => none
  else match prepA P H f sl 0 args with
    | some sl1 => match readAll P H f sl1 0 args with
      | some l => callPs P K sl1 f (l ++ more.map fun v => ⟨.v v, none, none⟩) dst
      | none => none
    | none => none
def isOptB (sl : List S) : Operand → Bool
  | .tmp t => match sl[t]? with
    | some (.t (.opt _ _)) => true
    | _ => false
  | _ => false
def partI (sl : List S) : List (Nat × Operand) → Option Operand
  | [(0, .tmp t)] => match sl[t]? with
    | some (.t (.ifc _ _)) => some (.tmp t)
    | _ => none
  | _ => none
theorem partI_eq {sl : List S} {l : List (Nat × Operand)} {x : Operand} (h : partI sl l = some x) : l = [(0, x)] := by
  unfold partI at h
  split at h
  · split at h
    · cases h; rfl
    · cases h
  · cases h
def methB (P : Program) (u : TypeId) (name : String) : Option FuncId :=
  match P.info? u with
  | some ti => match ti.methods.find? (·.name == name) with
    | some m => match m.path.toList, m.func, P.underlying u with
      | [], some (f, true), some (.pointer _) => some f
      | _, _, _ => none
    | none => none
  | none => none
def Pl.down (p : Pl) : Pl := ⟨p.s, p.path ++ [0]⟩
def callM (P : Program) (K : Oracle) (H : Hints) (sl : List S) (t : Nat) (name : String) (args : List Operand) (dst : Option Nat) : Option (List S) :=
  match sl[t]? with
  | some (.bfc u p) => match methB P u name with
    | some f => match prepA P H f sl 1 args with
      | some sl1 => match sl1[t]?, slAt sl1 p.down, readAll P H f sl1 1 args with
        | some (.bfc u' p'), some (.opt ty cs), some l => if u' = u ∧ p' = p then callPs P K sl1 f (⟨.io (.opt ty cs) .pt, some p.down, none⟩ :: l) dst else none
        | _, _, _ => none
      | none => none
    | none => none
  | _ => none
def freezeCells (P : Program) : List T → Option (List V)
  | [] => some []
  | .p v :: r => match freezeCells P r with | some l => some (v :: l) | none => none
  | .own ty es :: r => match freezeCells P r with | some l => some (.sl false false (P.cellsOf ty) es :: l) | none => none
  | _ :: _ => none
def T.isSelf : T → Bool
  | .self => true
  | _ => false
def concrete (P : Program) (t : TypeId) : Bool := match P.underlying t with | some (.interface _) => false | some _ => true | none => false
def eff (P : Program) (K : Oracle) (H : Hints) (me : FuncId) (sl : List S) (dst : Option Nat) : Op → Option (List S)
  | .move x => match tk P sl x with
    | some (y, sl') => putD sl' dst (.t y)
    | none => none
  | .assign x => match dst with
    | some d => match x with
      | .tmp t => if H.give me d then giveOp P sl t d else assignOp P sl (.tmp t) d
      | x => assignOp P sl x d
    | none => none
  | .store t a x => match dst, rd sl a with
    | none, some (.bpt p i j) => storeAt P t sl p i j x
    | _, _ => none
  | .alloc t => match zeroOf P t with
    | some z => match kTs z.cells.toList with
      | some cs => putD sl dst (.t (.opt t (tagTs P (if H.raw t then [] else cellTys P 8 t) cs)))
      | none => none
    | none => none
  | .box t x => match tkT P t sl x with
    | some (.p (.agg vs), sl') => if aggT P t = some true ∧ vs.length = P.cellsOf t ∧ vs.all V.one then putD sl' dst (.t (.opt t (vs.map .p))) else none
    | some (.agg ts, sl') => if aggT P t = some true ∧ ts.length = P.cellsOf t then putD sl' dst (.t (.opt t ts)) else none
    | some (.tup _, _) => none
    | some (y, sl') => if aggT P t = some false ∧ P.cellsOf t = 1 then putD sl' dst (.t (.opt t [y])) else none
    | none => none
  | .build t parts => if H.zo t && parts.toList.isEmpty then (match zeroOf P t, P.underlying t with
      | some z, some (.struct fs) => match kTs z.cells.toList with
        | some cs => if fs.all (fun f => (P.info? f.type).isSome) then putD sl dst (.t (.agg (tagTs P (cellTys P 8 t) cs))) else none
        | none => none
      | _, _ => none)
    else match partI sl parts.toList with
    | some x => match tk P sl x with
      | some (.ifc u y, sl') => if oneF P t then putD sl' dst (.t (.agg [.ifc u y])) else none
      | _ => none
    | none => match tkVs P (partTy P t) sl parts.toList with
      | some (l, sl') => match buildOp P t l with
        | some v => putD sl' dst (.v v)
        | none => none
      | none => none
  | .buildSlice t len parts => match P.underlying t with
    | some (.slice e) => match tkVs P (partTy P t) sl parts.toList with
      | some (l, sl') => match (if len = 0 then (if l.isEmpty then some [] else none) else match zeroV P e with | some z => if wellEl P e z then setParts (P.cellsOf e) (List.replicate len z) l else none | none => none) with
        | some es => if es.all (wellEl P e) ∧ len ≤ 65536 ∧ P.cellsOf e ≤ 256 ∧ 0 < P.cellsOf e then putD sl' dst (.t (.own e es)) else none
        | none => none
      | none => none
    | _ => none
  | .makeSlice t l c => match P.underlying t, pv sl l, pv sl c with
    | some (.slice e), some (.int .i64 l), some (.int .i64 c) => match zeroV P e with
      | some z => if 0 ≤ l ∧ l ≤ c ∧ c ≤ 2147483648 ∧ P.bytesOf e ≤ 65536 ∧ wellEl P e z ∧ 0 < P.cellsOf e then putD sl dst (.t (.own e (List.replicate l.toNat z))) else none
      | none => none
    | _, _, _ => none
  | .load t a => match rd sl a with
    | some (.bpt p i j) => match slAt sl p with
      | some (.opt ty cs) => if aggT P t = some true ∧ j + P.cellsOf t ≤ cs.length ∧ 0 < P.cellsOf t then
          (if H.moves me dst then if ((cs.drop j).take (P.cellsOf t)).any T.isSelf then none else
            match putN sl p (.opt ty (cs.take j ++ List.replicate (P.cellsOf t) .dead ++ cs.drop (j + P.cellsOf t))) true with
            | some sl' => putD sl' dst (.t (.agg ((cs.drop j).take (P.cellsOf t))))
            | none => none
          else match freezeCells P ((cs.drop j).take (P.cellsOf t)) with
            | some l => match putN sl p (.opt ty (cs.take j ++ l.map .p ++ cs.drop (j + P.cellsOf t))) true with
              | some sl' => putD sl' dst (.v (.agg l))
              | none => none
            | none => none)
        else none
      | _ => none
    | _ => none
  | .extract x i => match x with
    | .tmp t => match sl[t]? with
      | some (.t (.tup ts)) => match ts[i]? with
        | some (.p v) => putD sl dst (.v v)
        | some .dead => none
        | some y => putD (sl.set t (.t (.tup (ts.set i .dead)))) dst (.t y)
        | none => none
      | _ => none
    | _ => none
  | .makeInterface t x => if concrete P t then (if isOptB sl x then match tk P sl x with
        | some (.opt ty cs, sl') => putD sl' dst (.t (.ifc t (.opt ty cs)))
        | _ => none
      else match tkVT P t sl x with
      | some (v, sl') => putD sl' dst (.v (.ifc t v))
      | none => none)
    else none
  | .convert s d x => match P.underlying s, P.underlying d with
    | some .string, some (.slice e) => match P.underlying e, pv sl x with
      | some (.int .u8), some (.str l) => if l.length ≤ 2147483648 ∧ P.cellsOf e = 1 then putD sl dst (.t (.own e (bytesV l))) else none
      | _, _ => none
    | some (.slice e), some (.slice _) => if s = d then match P.underlying e with
        | some (.int .u8) => match tk P sl x with
          | some (.own ty (v :: es), sl') => putD sl' dst (.v (.sl false false (P.cellsOf ty) (v :: es)))
          | _ => none
        | _ => none
      else none
    | _, _ => none
  | .makeFunc (.func f) first captured => match first.toList, captured.toList with
    | [], [.tmp t] => match sl[t]? with
      | some (.t (.opt ty cs)) => if H.ownC f then match putN sl ⟨t, []⟩ .dead false with
          | some sl' => putD sl' dst (.t (.clo f (.opt ty cs)))
          | none => none
        else match elemsS.T.pures cs with
        | some l => if V.stabL l then match putN sl ⟨t, []⟩ (.p (.ref false l)) false with
            | some sl' => putD sl' dst (.v (.fn false f [.ref false l]))
            | none => none
          else none
        | none => none
      | _ => none
    | _, _ => none
  | .call { callee := .builtin .append, args := args, argTypes := ts } => match args.toList, ts.toList with
    | [x, y], [t, u] => match P.underlying t with
      | some (.slice e) => if (H.moves me dst && noInt P u) = true then appendF P e sl x y dst else appendOp P e u sl x y dst
      | _ => none
    | _, _ => none
  | .call { callee := .builtin .copy, args := args, argTypes := ts } => match args.toList, ts.toList with
    | [x, y], [t, _] => match P.underlying t with
      | some (.slice e) => copyOp P e sl x y dst
      | _ => none
    | _, _ => none
  | .call { callee := .builtin .unsafeSliceData, args := args, argTypes := _ } => match args.toList with
    | [x] => match rd sl x with
      | some (.bsl p _ 0 _) => match slAt sl p with
        | some (.own ty []) => if P.cellsOf ty = 0 then putD sl dst (.v .nilp) else none
        | _ => none
      | _ => none
    | _ => none
  | .call { callee := .builtin .unsafeString, args := args, argTypes := ts } => match args.toList, ts.toList with
    | [x, n], [pt, _] => match rd sl x, pv sl n with
      | some (.bpt p 0 0), some (.int .i64 n) => match slAt sl p, P.underlying pt with
        | some (.own ty es), some (.pointer e) => if e = ty ∧ 0 < n ∧ n ≤ 9223372036854775807 ∧ n.toNat ≤ es.length ∧ P.cellsOf ty = 1 then match unbytes (es.take n.toNat) with
            | some l => match putN sl p (.p (.sl false false (P.cellsOf ty) es)) false with
              | some sl' => putD sl' dst (.v (.str l))
              | none => none
            | none => none
          else none
        | _, _ => none
      | some (.t (.p .nilp)), some (.int .i64 n) => if n = 0 then putD sl dst (.v (.str [])) else none
      | _, _ => none
    | _, _ => none
  | .call { callee := .value (.func f), args := args, argTypes := _ } => callOp P K H sl f args.toList [] dst
  | .call { callee := .value (.tmp t), args := args, argTypes := _ } => match sl[t]? with
    | some (.t (.p (.fn _ f caps))) => callOp P K H sl f args.toList caps dst
    | _ => none
  | .call { callee := .invoke (.tmp t) m, args := args, argTypes := _ } => callM P K H sl t m args.toList dst
  | _ => none
def stepA (P : Program) (K : Oracle) (H : Hints) (me : FuncId) (sl : List S) (o : Oper) : Option (List S) :=
  match nilOp P o with
  | some y => putD sl o.dst (.t y)
  | none => match lookA P sl o.op with
    | some s => putD sl o.dst s
    | none => eff P K H me sl o.dst o.op
def V.noEx : V → V
  | .sl sn _ sz es => .sl sn false sz es
  | v => v
def fixS (P : Program) : List (Nat × Bool) → List S → Option (List S)
  | [], s => some s
  | (d, false) :: r, s => match setD s d (.t .dead) with
    | some s' => fixS P r s'
    | none => none
  | (d, true) :: r, s => match tkV P s (.tmp d) with
    | some (v, s') => match setD s' d (.t (.p v.noEx)) with
      | some s'' => fixS P r s''
      | none => none
    | none => none
def wantA (all : List Oper) (sl : List S) (o : Oper) : Option Bool :=
  match o.guard with
  | none => some true
  | some (j, want) => match all[j]? with
    | some g => match g.dst with
      | some d => match sl[d]? with
        | some (.t (.p (.bool b))) => some (b == want)
        | some (.t (.tup [])) => some false
        | _ => none
      | none => none
    | none => none
def pickK (all : List Oper) (o : Oper) : List (Nat × Bool) :=
  match o.op with
  | .pick (.tmp c) _ _ => all.filterMap fun g => match g.guard with
    | some (j, _) => match all[j]? with
      | some h => if h.dst = some c then g.dst.map (·, false) else none
      | none => none
    | none => none
  | _ => []
def stepW (P : Program) (K : Oracle) (H : Hints) (me : FuncId) (all : List Oper) (sl : List S) (o : Oper) : Option (List S) :=
  match wantA all sl o with
  | some true => stepA P K H me sl o
  | some false => putD sl o.dst (.t (.tup []))
  | none => none
def runOps (P : Program) (K : Oracle) (H : Hints) (me : FuncId) (all : List Oper) : List Oper → List S → Option (List S)
  | [], sl => some sl
  | o :: r, sl => match stepW P K H me all sl o with
    | some sl' => match fixS P (pickK all o) sl' with
      | some sl'' => runOps P K H me all r sl''
      | none => none
    | none => none
def S.roots : S → List Nat
  | .t _ => []
  | .bsl p _ _ _ | .bpt p _ _ | .bar p _ _ _ | .bfc _ p => [p.s]
  | .bfn _ caps => caps.map (·.s)
def plX (sl : List S) : Operand → List Nat
  | .tmp t => match sl[t]? with
    | some (.t (.p _)) => []
    | some (.t _) => [t]
    | some s => s.roots
    | none => []
  | _ => []
def rootsX (sl : List S) : Operand → List Nat
  | .tmp t => match sl[t]? with | some s => s.roots | none => []
  | _ => []
def slotX : Operand → List Nat
  | .tmp t => [t]
  | _ => []
def tkB (sl : List S) : Operand → List Nat
  | .tmp t => match sl[t]? with
    | some (.t (.p _)) => []
    | some (.bsl p _ _ _) => [p.s]
    | some (.bar p _ _ _) => [p.s]
    | _ => [t]
  | _ => []
def callB (H : Hints) (f : FuncId) (sl : List S) : Nat → List Operand → List Nat
  | _, [] => []
  | k, x :: r => (match x with
    | .tmp t => (if H.mode f k = 2 ∨ H.mode f k = 3 then [t] else []) ++ (match sl[t]? with
      | some (.t (.p _)) => []
      | some (.bsl p _ _ _) => if H.mode f k = 0 then [] else [p.s]
      | some (.bar p _ _ _) => if H.mode f k = 0 then [] else [p.s]
      | some (.bpt p _ _) => [p.s]
      | some (.bfc _ p) => [p.s]
      | _ => [t])
    | _ => []) ++ callB H f sl (k + 1) r
def callX (sl : List S) : List Operand → List Nat
  | [] => []
  | x :: r => (match x with
    | .tmp t => t :: (match sl[t]? with | some s => s.roots | none => [])
    | _ => []) ++ callX sl r
def exB (sl : List S) (x : Operand) (i : Nat) : List Nat := match x with
  | .tmp t => match sl[t]? with
    | some (.t (.tup ts)) => match ts[i]? with
      | some (.p _) => []
      | _ => [t]
    | _ => [t]
  | _ => []
def effB (H : Hints) (sl : List S) : Op → List Nat
  | .move x | .assign x | .box _ x | .makeInterface _ x | .convert _ _ x => tkB sl x
  | .store _ a x => plX sl a ++ tkB sl x
  | .build _ ps | .buildSlice _ _ ps => ps.toList.flatMap fun p => tkB sl p.2
  | .load _ a => plX sl a
  | .extract x i => exB sl x i
  | .makeFunc _ _ caps => caps.toList.flatMap slotX
  | .call { callee := .builtin .append, args := args, argTypes := _ } => match args.toList with | x :: _ => tkB sl x | [] => []
  | .call { callee := .builtin .copy, args := args, argTypes := _ } => match args.toList with | x :: _ => plX sl x | [] => []
  | .call { callee := .builtin .unsafeString, args := args, argTypes := _ } => match args.toList with | x :: _ => plX sl x | [] => []
  | .call { callee := .value (.func f), args := args, argTypes := _ } => callB H f sl 0 args.toList
  | .call { callee := .value (.tmp t), args := args, argTypes := _ } => match sl[t]? with
    | some (.t (.p (.fn _ f _))) => callB H f sl 0 args.toList
    | _ => []
  | .call { callee := .invoke (.tmp t) _, args := args, argTypes := _ } => (match sl[t]? with | some s => s.roots | none => []) ++ callX sl args.toList
  | _ => []
structure Rec where
  fp : List Nat
  wr : List Nat
  deriving DecidableEq, Inhabited
def guardS (all : List Oper) (o : Oper) : List Nat :=
  match o.guard with
  | none => []
  | some (j, _) => match all[j]? with
    | some g => g.dst.toList
    | none => []
def opReads (sl : List S) : Op → List Operand
  | .pick c a b => match pv sl c with
    | some (.bool true) => [c, a]
    | some (.bool false) => [c, b]
    | _ => [c, a, b]
  | op => op.operands.toList
def readsA (all : List Oper) (sl : List S) (o : Oper) : List Nat :=
  ((opReads sl o.op).flatMap fun x => slotX x ++ rootsX sl x) ++ guardS all o
def closedB (sl : List S) (l : List Nat) : Bool := l.all fun t => match sl[t]? with
  | some (.t .dead) => false
  | some s => s.roots.all l.contains
  | none => false
def effW (P : Program) (H : Hints) (sl : List S) (o : Oper) : List Nat := if (nilOp P o).isSome || (lookA P sl o.op).isSome then [] else effB H sl o.op
def stepR (P : Program) (K : Oracle) (H : Hints) (me : FuncId) (all : List Oper) (sl : List S) (o : Oper) : Option (Rec × List S) :=
  match wantA all sl o with
  | some true => if closedB sl (readsA all sl o) && (effW P H sl o).all (readsA all sl o).contains then
      match stepA P K H me sl o with
      | some sl' => some (⟨readsA all sl o ++ o.dst.toList, o.dst.toList ++ effW P H sl o⟩, sl')
      | none => none
    else none
  | some false => match putD sl o.dst (.t (.tup [])) with
    | some sl' => some (⟨guardS all o ++ o.dst.toList, o.dst.toList⟩, sl')
    | none => none
  | none => none
def runR (P : Program) (K : Oracle) (H : Hints) (me : FuncId) (all : List Oper) : List Nat → List S → Option (List Rec × List S)
  | [], sl => some ([], sl)
  | i :: r, sl => match all[i]? with
    | some o => match stepR P K H me all sl o with
      | some (x, sl') => match runR P K H me all r sl' with
        | some (l, sl'') => some (x :: l, sl'')
        | none => none
      | none => none
    | none => none
def meets (a b : List Nat) : Bool := a.any b.contains
def indep (x y : Rec) : Bool := !meets x.wr y.fp && !meets y.wr x.fp
def waitsOn (o : Oper) : List Nat := (o.after.toList.filter fun e => Region.binds .any e).map (·.on)
def dedupN : List Nat → List Nat
  | [] => []
  | a :: r => if r.contains a then dedupN r else a :: dedupN r
def ancs : List Oper → List (List Nat) → List (List Nat)
  | [], acc => acc
  | o :: r, acc => ancs r (acc ++ [dedupN (waitsOn o ++ (waitsOn o).flatMap fun j => acc.getD j [])])
def freeP (ops : List Oper) : Option (List (Nat × Nat)) :=
  if (List.range ops.length).all fun k => (waitsOn (ops.getD k default)).all fun j => decide (j < k) then
    some ((List.range ops.length).flatMap fun k => ((List.range k).filter fun j => !((ancs ops []).getD k []).contains j).map fun j => (j, k))
  else none
def apartR (recs : List Rec) (ps : List (Nat × Nat)) : Bool := ps.all fun p => indep (recs.getD p.1 default) (recs.getD p.2 default)
def runD (P : Program) (K : Oracle) (H : Hints) (me : FuncId) (ops : List Oper) (sl : List S) : Option (List S) :=
  match freeP ops, runR P K H me ops (List.range ops.length) sl with
  | some ps, some (recs, sl') => if apartR recs ps then some sl' else none
  | _, _ => none
inductive Ex where
  | normal
  | exit (id : Nat)
  | ret
def iter (f : List S → Option (Ex × List S)) : Nat → List S → Option (Ex × List S)
  | 0, _ => none
  | n + 1, s => match f s with
    | some (.normal, s') => iter f n s'
    | r => r
open Classical in
noncomputable def loopRun (f : List S → Option (Ex × List S)) (s : List S) : Option (Ex × List S) :=
  if h : ∃ n, (iter f n s).isSome then iter f (Classical.choose h) s else none
def postS (P : Program) (h : HT) : Option (Ex × List S) → Option (Ex × List S)
  | some (.normal, s) => match fixS P h.post s with
    | some s' => some (.normal, s')
    | none => none
  | r => r
def around (P : Program) (h : HT) (f : List S → Option (Ex × List S)) (s : List S) : Option (Ex × List S) :=
  match fixS P h.pre s with
  | some s' => postS P h (f s')
  | none => none
def dstsC : Code → List Nat
  | .region _ ops _ => ops.toList.flatMap fun o => o.dst.toList
  | .seq a b => dstsC a ++ dstsC b
  | .cond _ a b => dstsC a ++ dstsC b
  | .block _ b => dstsC b
  | .loop b => dstsC b
  | _ => []
def rfKill (ps : List Nat) (x b : Code) : List (Nat × Bool) := (ps ++ dstsC x ++ dstsC b).map (·, false)
def setPs : List Nat → List V → List S → Option (List S)
  | [], [], s => some s
  | p :: ps, v :: vs, s => match setD s p (.t (.p v)) with
    | some s' => setPs ps vs s'
    | none => none
  | _, _, _ => none
def S.still : S → Bool
  | .t .dead => true
  | .t x => x.stab
  | _ => false
def rfStart (P : Program) (H : Hints) (g : Operand) (s : List S) : Option (FuncId × List (List V) × List S × Bool) :=
  match pv s g with
  | some (.fn _ f caps) => if fitsB P f (1 + caps.length) then match H.iter f caps with
      | some items => some (f, items, s, false)
      | none => none
    else none
  | _ => match tk P s g with
    | some (.clo f x, s1) => if (fitsB P f 2 && s1.all S.still) = true then match H.iterO f x with
        | some items => some (f, items, s1, true)
        | none => none
      else none
    | _ => none
def rfRun (P : Program) (chk : Bool) (kill : List (Nat × Bool)) (ps : List Nat) (fa fb : List S → Option (Ex × List S)) : List (List V) → List S → Option (Ex × List S)
  | [], s => some (.normal, s)
  | x :: r, s => match setPs ps x s with
    | some s1 => match fa s1 with
      | some (.normal, s2) => match fb s2 with
        | some (e, s3) => match fixS P kill s3 with
          | some s4 => if (!chk || s4.all S.still) = true then match e with
              | .normal => rfRun P chk kill ps fa fb r s4
              | e => some (e, s4)
            else none
          | none => none
        | none => none
      | _ => none
    | none => none
noncomputable def exec (P : Program) (K : Oracle) (H : Hints) (me : FuncId) : Code → HT → List S → Option (Ex × List S)
  | .skip, h, s => around P h (fun s => some (.normal, s)) s
  | .region _ ops draw, h, s => around P h (fun s => match (if draw then runD P K H me ops.toList s else runOps P K H me ops.toList ops.toList s) with
    | some s' => some (.normal, s')
    | none => none) s
  | .seq a b, h, s => around P h (fun s => match exec P K H me a h.l s with
    | some (.normal, s') => exec P K H me b h.r s'
    | r => r) s
  | .cond c a b, h, s => around P h (fun s => match pv s c with
    | some (.bool t) => if t then exec P K H me a h.l s else exec P K H me b h.r s
    | _ => none) s
  | .block id b, h, s => around P h (fun s => match exec P K H me b h.l s with
    | some (.exit j, s') => if j = id then some (.normal, s') else some (.exit j, s')
    | r => r) s
  | .loop b, h, s => around P h (fun s => loopRun (exec P K H me b h.l) s) s
  | .exit id, h, s => around P h (fun s => some (.exit id, s)) s
  | .ret, h, s => around P h (fun s => some (.ret, s)) s
  | .rangeFunc g ps x b, h, s => around P h (fun s => match fixS P (rfKill ps.toList x b) s with
    | some s0 => match rfStart P H g s0 with
      | some (_, items, s1, chk) => rfRun P chk (rfKill ps.toList x b) ps.toList (exec P K H me x h.l) (exec P K H me b h.r) items s1
      | none => none
    | none => none) s
  | _, _, _ => none
def occX : Operand → List Nat
  | .tmp t => [t]
  | _ => []
def occ : Code → List Nat
  | .region _ ops _ => ops.toList.flatMap fun o => o.dst.toList ++ o.op.operands.toList.flatMap occX
  | .seq a b => occ a ++ occ b
  | .cond c a b => occX c ++ occ a ++ occ b
  | .block _ b => occ b
  | .loop b => occ b
  | .rangeFunc f ps a b => occX f ++ ps.toList ++ occ a ++ occ b
  | .scope b => occ b
  | _ => []
def autoHT (out : List Nat) (c : Code) : HT :=
  let own := (dedupN (occ c)).filter fun t => !out.contains t
  let k := own.map (·, false)
  match c with
  | .seq a b => .n [] k (autoHT (occ b ++ out) a) (autoHT (occ a ++ out) b)
  | .cond c a b => .n [] k (autoHT (occX c ++ occ b ++ out) a) (autoHT (occX c ++ occ a ++ out) b)
  | .block _ b => .n [] [] (autoHT out b) .z
  | .loop b => .n [] [] (autoHT out b) .z
  | .rangeFunc g ps x b => .n [] k (autoHT (occX g ++ ps.toList ++ occ b ++ out) x) (autoHT (occX g ++ ps.toList ++ occ x ++ out) b)
  | _ => .n [] k .z .z
def resOcc : ResultVar → Nat
  | .tmp t => t
  | .cell t _ => t
def funcHT (fn : Func) : HT := match fn.body with
  | some c => autoHT (List.range fn.params.size ++ fn.results.toList.map resOcc) c
  | none => .z
def opOk (n : Nat) (o : Oper) : Bool :=
  (match o.dst with | some d => decide (d < n) | none => true) && o.op.operands.all fun x => match x with | .tmp t => decide (t < n) | _ => true
def noRange : Code → Bool
  | .rangeFunc _ _ _ _ => false
  | .seq a b => noRange a && noRange b
  | .cond _ a b => noRange a && noRange b
  | .block _ b => noRange b
  | .loop b => noRange b
  | _ => true
def codeOk (n : Nat) : Code → Bool
  | .region _ ops draw => ops.all (opOk n)
  | .seq a b => codeOk n a && codeOk n b
  | .cond c a b => (match c with | .tmp t => decide (t < n) | _ => true) && codeOk n a && codeOk n b
  | .block _ b => codeOk n b
  | .loop b => codeOk n b
  | .rangeFunc g ps x b => (match g with | .tmp t => decide (t < n) | _ => true) && (ps.toList.all fun t => decide (t < n)) && noRange x && noRange b && codeOk n x && codeOk n b
  | _ => true
def resOk (n : Nat) (l : List ResultVar) : Bool := l.all fun x => match x with | .tmp t => decide (t < n) | .cell t _ => decide (t < n)
def params (n : Nat) : Nat → List Arg → List S
  | _, [] => []
  | k, .v x :: r => .t (.p x) :: params n (k + 1) r
  | k, .mv x :: r => .t x :: params n (k + 1) r
  | k, .io x .pt :: r => .bpt ⟨n + k, []⟩ 0 0 :: params n (k + 1) r
  | k, .io x (.sl off len) :: r => .bsl ⟨n + k, []⟩ off len false :: params n (k + 1) r
def anchor : Arg → S
  | .io x _ => .t x
  | _ => .t .dead
def frame (n : Nat) (args : List Arg) : List S := params n 0 args ++ List.replicate (n - args.length) (.t .dead) ++ args.map anchor
def retT (P : Program) (n : Nat) (sl : List S) : ResultVar → Option (T × List S)
  | .tmp t => match sl[t]? with
    | some (.t (.p v)) => if v.stab then some (.p v, sl) else none
    | some (.t .dead) => none
    | some (.t .self) => none
    | some (.t x) => if x.stab then some (x, (killP ⟨t, []⟩ false sl).set t (.t .dead)) else none
    | some (.bsl p off len ex) => if p.s < n then match slAt sl p with
        | some (.own ty es) => match putN sl p .dead false with
          | some sl' => some (.own ty ((es.drop off).take len), sl')
          | none => none
        | _ => none
      else none
    | some (.bpt p 0 0) => if p.s < n then match slAt sl p with
        | some (.opt ty cs) => if T.stabL cs then match putN sl p .dead false with
          | some sl' => some (.opt ty cs, sl')
          | none => none
          else none
        | _ => none
      else none
    | _ => none
  | .cell t ty => match sl[t]? with
    | some (.t (.opt ty' cs)) =>
      if aggT P ty = some true then (if P.cellsOf ty = cs.length ∧ 0 < cs.length ∧ T.stabL cs ∧ cs.any T.isSelf = false then match elemsS.T.pures cs with
          | some l => some (.p (.agg l), sl)
          | none => some (.agg cs, (killP ⟨t, []⟩ false sl).set t (.t .dead))
        else none)
      else if aggT P ty = some false then match cs with
        | [x] => if x.stab ∧ x.isSelf = false then some (x, (killP ⟨t, []⟩ false sl).set t (.t .dead)) else none
        | _ => none
      else none
    | _ => none
def retAll (P : Program) (n : Nat) : List S → List ResultVar → Option (List T × List S)
  | sl, [] => some ([], sl)
  | sl, v :: r => match retT P n sl v with
    | some (x, sl') => match retAll P n sl' r with
      | some (xs, sl'') => some (x :: xs, sl'')
      | none => none
    | none => none
def oneT : List T → T
  | [x] => x
  | l => .tup l
def outsOf : List S → Option (List T)
  | [] => some []
  | .t .dead :: r => match outsOf r with
    | some l => some (.dead :: l)
    | none => none
  | .t x :: r => match outsOf r with
    | some l => if x.stab then some (x :: l) else none
    | none => none
  | _ :: _ => none
noncomputable def runF (P : Program) (K : Oracle) (H : Hints) (f : FuncId) (args : List Arg) : Option (T × List T) :=
  match P.funcs[f]? with
  | some fn => match fn.body with
    | some c => if args.length ≤ fn.ntmps ∧ codeOk fn.ntmps c ∧ resOk fn.ntmps fn.results.toList ∧ (H.ht f).ok fn.ntmps then match exec P K H f c (H.ht f) (frame fn.ntmps args) with
        | some (.exit _, _) => none
        | some (_, sl) => match retAll P fn.ntmps sl fn.results.toList with
          | some (rs, sl') => match outsOf (sl'.drop fn.ntmps) with
            | some outs => some (oneT rs, outs)
            | none => none
          | none => none
        | none => none
      else none
    | none => none
  | none => none
noncomputable def callN (P : Program) (H : Hints) (sp : FuncId → Option (List Arg → Option (T × List T))) : Nat → Oracle
  | 0 => fun _ _ => none
  | n + 1 => fun f args => match sp f with
    | some g => g args
    | none => runF P (callN P H sp n) H f args
end Go.Proofs.Ytffofdfikmpanaa.A
namespace Go.Proofs.Ytffofdfikmpanaa.A
set_option linter.unusedVariables false
set_option linter.unusedSimpArgs false
section
variable {P : Program} {w : World} {Zs Zx : Nat → Prop}
theorem PRep.sz {sn ex : Bool} {sz : Nat} {es : List V} {c : Value} (h : PRep w Zs Zx (.sl sn ex sz es) c) (n : Nat) : PRep w Zs Zx (.sl sn false (if sz = 0 ∧ es = [] then n else sz) es) c := by
  split
  · rename_i hh
    obtain ⟨_, rfl⟩ := hh
    cases h with
    | sl0 => exact .sl0 _ _ _ _ _ (by simp)
    | sl => exact .sl0 _ _ _ _ _ (by simp)
  · cases h with
    | sl0 => exact .sl0 _ _ _ _ _ (by simp)
    | sl _ _ _ _ b off cap he hc hz hcl h1 hd h => exact .sl _ _ _ _ b off cap (by simp) hc hz hcl h1 hd h
theorem PRep.noEx {sn ex : Bool} {sz : Nat} {es : List V} {c : Value} (h : PRep w Zs Zx (.sl sn ex sz es) c) : PRep w Zs Zx (.sl sn false sz es) c := by
  cases h with
  | sl0 => exact .sl0 _ _ _ _ _ (by simp)
  | sl _ _ _ _ b off cap he hc hz hcl h1 hd h => exact .sl _ _ _ _ b off cap (by simp) hc hz hcl h1 hd h
theorem PRep.noExV {v : V} {c : Value} (h : PRep w Zs Zx v c) : PRep w Zs Zx v.noEx c := by
  cases v <;> try exact h
  exact h.noEx
theorem PRep.tag {v : V} {c : Value} (h : PRep w Zs Zx v c) (t : TypeId) : PRep w Zs Zx (v.tag P t) c := by
  cases v <;> try exact h
  simp only [V.tag]
  split
  · exact h.sz _
  · exact h
theorem PRep.lax {v : V} {c : Value} (h : PRep w Zs Zx v c) (hz : ∀ b, Zs b → Zx b) (t : TypeId) : PRep w Zs Zx (v.lax P t) c := by
  cases v <;> try exact h
  rename_i sn0 ex0 sz es
  simp only [V.lax]
  split
  · rename_i e _
    have := h.sz (P.cellsOf e)
    generalize (if sz = 0 ∧ es = [] then P.cellsOf e else sz) = n at this ⊢
    cases this with
    | sl0 => exact .sl0 _ _ _ _ _ (by simp)
    | sl _ _ _ _ b off cap he hc hzz hcl h1 hd h' => exact .sl _ _ _ _ b off cap (by simp) hc (by cases sn0; exact hz _ hzz; exact hzz) hcl h1 hd h'
  · exact h
theorem PRep.laxV {v : V} {c : Value} (h : PRep w Zs Zx v c) (hz : ∀ b, Zs b → Zx b) (t : TypeId) (m : Nat) : PRep w Zs Zx (laxV P t m v) c := by
  unfold A.laxV
  split
  · exact h.lax hz t
  · exact h.tag t
theorem V.tag_one {v : V} (t : TypeId) : (v.tag P t).one = v.one := by
  cases v <;> try rfl
  simp only [V.tag]; split <;> rfl
theorem V.tag_cells {v : V} (t : TypeId) (h : v.one = true) : (v.tag P t).cells = [v.tag P t] := by
  cases v <;> try rfl
  · simp [V.one] at h
  · simp only [V.tag]; split <;> rfl
theorem TRep.tag {me : Option Nat} {x : T} {c : Value} {F : Nat → Prop} (h : TRep P w Zs Zx me x c F) (t : TypeId) : TRep P w Zs Zx me (x.tag P t) c F := by
  cases x <;> try exact h
  · cases h with
    | p me v c F hp hF => exact .p me _ c F (hp.tag t) hF
  · rename_i ty es
    simp only [T.tag]
    split
    · rename_i hh
      obtain ⟨_, rfl, h0⟩ := hh
      split
      · split
        · rename_i e _ hpos
          cases h with
          | own0 me ty ad F hF hn => exact .own0 me e ad F hF (by omega)
          | own me ty es b off cap vs fz F hw hc hsz hpos' hfz hcl h1 h hF => omega
        · exact h
      · exact h
    · exact h
end
end Go.Proofs.Ytffofdfikmpanaa.A
namespace Go.Proofs.Ytffofdfikmpanaa.A
set_option linter.unusedVariables false
section
variable {P : Program}
theorem run_sizeOf {t : TypeId} (h : 0 < P.cellsOf t) (w : World) : (sizeOf t).run P w = .ok (P.cellsOf t) w := by
  unfold Program.cellsOf at *
  cases hi : P.info? t with
  | none => simp [hi] at h
  | some i => simp [sizeOf, typeInfo, hi]
theorem aggT_desc {t : TypeId} {b : Bool} (h : aggT P t = some b) : ∃ d, P.underlying t = some d ∧ (match d with | .struct _ | .array _ _ => true | _ => false) = b := by
  unfold aggT at h
  cases hu : P.underlying t with
  | none => simp [hu] at h
  | some d => refine ⟨d, rfl, ?_⟩; rw [hu] at h; cases d <;> simp_all
theorem run_isAgg {t : TypeId} {b : Bool} (h : aggT P t = some b) (w : World) : (isAgg t).run P w = .ok b w := by
  obtain ⟨d, hu, hd⟩ := aggT_desc h
  simp only [isAgg, Sem.run_bind, Go.run_underlying hu, Result.andThen_ok]
  subst hd
  cases d <;> rfl
def Val (P : Program) (w : World) (X : Nat → Prop) (F : Nat → Nat → Prop) (sl : List S) (cv : List Value) (s : S) (c : Value) : Prop :=
  match s with
  | .t (.p v) => PRep w (zs w X F) (zx w F) v c
  | .t (.own ty es) => es = [] → c = .slice none 0 0
  | .t _ => True
  | .bfn f caps => ∃ vs : List Value, c = .func (.func f) #[] vs.toArray ∧ vs.length = caps.length ∧
      ∀ (i : Nat) (p : Pl) (v : Value), caps[i]? = some p → vs[i]? = some v → ∃ z cz, slAt sl p = some z ∧ cvAt w cv p = some cz ∧ BRep P z cz (.bpt p 0 0) v
  | s => ∃ p z cz, s.place = some p ∧ slAt sl p = some z ∧ cvAt w cv p = some cz ∧ BRep P z cz s c
theorem kV_rep {c : Value} {v : V} (h : kV c = some v) (w : World) (Zs Zx : Nat → Prop) : PRep w Zs Zx v c ∧ v.one = true ∧ v.stab = true ∧ v.cells = [v] := by
  cases c with
  | bool b => simp [kV] at h; subst h; exact ⟨.bool b, rfl, rfl, rfl⟩
  | int k n => simp [kV] at h; subst h; exact ⟨.int k n, rfl, rfl, rfl⟩
  | string s => simp [kV] at h; subst h; exact ⟨.str _, rfl, rfl, rfl⟩
  | pointer a => cases a <;> simp [kV] at h; subst h; exact ⟨.nilp, rfl, rfl, rfl⟩
  | nilFunc => simp [kV] at h; subst h; exact ⟨.nilf, rfl, rfl, rfl⟩
  | nilIface => simp [kV] at h; subst h; exact ⟨.nili, rfl, rfl, rfl⟩
  | _ => simp [kV] at h
theorem kVs_rep : ∀ {cs : List Value} {l : List V}, kVs cs = some l → cs.length = l.length ∧ ∀ (w : World) (Zs Zx : Nat → Prop) (i : Nat) (v : V) (c : Value), l[i]? = some v → cs[i]? = some c → PRep w Zs Zx v c ∧ v.one = true ∧ v.stab = true
  | [], l, h => by simp [kVs] at h; subst h; simp
  | c :: r, l, h => by
    simp only [kVs] at h
    split at h
    · rename_i x y hx hy
      cases h
      obtain ⟨h1, h2⟩ := kVs_rep hy
      refine ⟨by simp [h1], fun w Zs Zx i v c hv hc => ?_⟩
      cases i with
      | zero => simp at hv hc; subst hv; subst hc; exact ⟨(kV_rep hx w Zs Zx).1, (kV_rep hx w Zs Zx).2.1, (kV_rep hx w Zs Zx).2.2.1⟩
      | succ i => simp at hv hc; exact h2 w Zs Zx i v c hv hc
    · cases h
theorem konst_val {c : Value} {x : T} (h : konst c = some x) (w : World) (Zs Zx : Nat → Prop) :
    (∃ v, x = .p v ∧ PRep w Zs Zx v c ∧ v.stab = true ∧ ∀ v' ∈ v.cells, v'.one = true) ∨ (x = .own nilTy [] ∧ c = .slice none 0 0) := by
  have base : ∀ {c : Value} {x : T}, kT c = some x → (∃ v, x = .p v ∧ PRep w Zs Zx v c ∧ v.stab = true ∧ ∀ v' ∈ v.cells, v'.one = true) ∨ (x = .own nilTy [] ∧ c = .slice none 0 0) := by
    intro c x h
    unfold kT at h
    split at h
    · cases h; exact .inr ⟨rfl, rfl⟩
    · cases hv : kV c with
      | none => simp [hv] at h
      | some v =>
        simp [hv] at h; subst h
        obtain ⟨h1, h2, h3, h4⟩ := kV_rep hv w Zs Zx
        exact .inl ⟨v, rfl, h1, h3, by rw [h4]; simpa using h2⟩
  cases c with
  | agg cs =>
    simp only [konst] at h
    cases hv : kVs cs.toList with
    | none => simp [hv] at h
    | some l =>
      simp [hv] at h; subst h
      obtain ⟨h1, h2⟩ := kVs_rep hv
      have h3 : ∀ (i : Nat) (v : V), l[i]? = some v → v.one = true ∧ v.stab = true := fun i v hi => by
        have hi' : i < cs.toList.length := by rw [h1]; exact (List.getElem?_eq_some_iff.1 hi).1
        exact (h2 w Zs Zx i v _ hi (List.getElem?_eq_getElem hi')).2
      refine .inl ⟨_, rfl, ?_, ?_, fun v hv => ?_⟩
      · have := PRep.agg (w := w) (Zs := Zs) (Zx := Zx) l cs.toList h1.symm (fun i v hi => (h3 i v hi).1) (fun i v c hv hc => (h2 w Zs Zx i v c hv hc).1)
        simpa using this
      · show V.stabL l = true
        have : ∀ l : List V, (∀ (i : Nat) (v : V), l[i]? = some v → v.stab = true) → V.stabL l = true := by
          intro l
          induction l with
          | nil => intro _; rfl
          | cons a l ih => intro h; simp only [V.stabL, Bool.and_eq_true]; exact ⟨h 0 a rfl, ih fun i v hi => h (i + 1) v (by simpa using hi)⟩
        exact this l fun i v hi => (h3 i v hi).2
      · obtain ⟨i, hi⟩ := List.getElem?_of_mem hv
        exact (h3 i v hi).1
  | _ => exact base h
structure Sit (P : Program) (w : World) (X : Nat → Prop) (sl : List S) (F : Nat → Nat → Prop) (a : Act) (gv : List Value) : Prop where
  rel : Rel P w X sl (a.tmps.toList ++ gv) F
def OkT (a : Act) (x : Operand) : Prop := ∀ t, x = .tmp t → t < a.tmps.size
theorem eval_tmp {a : Act} {t : Nat} (h : t < a.tmps.size) (gv : List Value) : (a.tmps.toList ++ gv)[t]? = some (a.eval (.tmp t)) := by
  rw [List.getElem?_append_left (by simpa using h)]
  simp [Act.eval, Array.getD, h]
section
variable {w : World} {X : Nat → Prop} {sl : List S} {F : Nat → Nat → Prop} {a : Act} {gv : List Value}
theorem slAt_nil {t : Nat} {x : T} (h : sl[t]? = some (.t x)) : slAt sl ⟨t, []⟩ = some x := by simp [slAt, h, T.at]
theorem cvAt_nil {cv : List Value} {t : Nat} {c : Value} (h : cv[t]? = some c) : cvAt w cv ⟨t, []⟩ = some c := by simp [cvAt, h, cAt]
theorem own_borrow {me : Option Nat} {ty : TypeId} {es : List V} {c : Value} {G Zs Zx : Nat → Prop} (h : TRep P w Zs Zx me (.own ty es) c G) (p : Pl) : BRep P (.own ty es) c (.bsl p 0 es.length false) c := by
  cases h with
  | own0 me ty ad F hF hn => exact ⟨ty, [], ad, 0, 0, ad, 0, rfl, rfl, by simp, rfl, by simp, by simp, by simp, .inl ⟨rfl, id⟩⟩
  | own me ty es b off cap vs fz F hw hc hsz hpos hfz hcl h1 h hF =>
    exact ⟨ty, es, some ⟨b, off, none⟩, es.length, cap, some ⟨b, off, none⟩, cap, rfl, rfl, by simp, rfl, hc, by simp, by simp, .inr ⟨b, off, rfl, by simp⟩⟩
theorem opt_borrow {me : Option Nat} {ty : TypeId} {cs : List T} {c : Value} {G Zs Zx : Nat → Prop} (h : TRep P w Zs Zx me (.opt ty cs) c G) (p : Pl) : BRep P (.opt ty cs) c (.bpt p 0 0) c := by
  cases h with
  | opt me ty cs b vs F G hw hl h1 h hF hb hd =>
    exact .inr ⟨ty, cs, b, rfl, rfl, rfl, rfl⟩
theorem slot_val (R : Sit P w X sl F a gv) {t : Nat} {s : S} {c : Value} (hs : sl[t]? = some s) (hc : (a.tmps.toList ++ gv)[t]? = some c) : Val P w X F sl (a.tmps.toList ++ gv) (rdS t s) c := by
  have h := R.rel.slot t s c hs hc
  cases s with
  | t x =>
    have hT : TRep P w (zs w X F) (zx w F) none x c (F t) := h
    cases x with
    | p v => cases hT; assumption
    | own ty es => exact ⟨_, _, c, rfl, slAt_nil hs, cvAt_nil hc, own_borrow hT _⟩
    | opt ty cs => exact ⟨_, _, c, rfl, slAt_nil hs, cvAt_nil hc, opt_borrow hT _⟩
    | ifc u y =>
      cases y with
      | opt ty cs =>
        cases hT with
        | ifc me t x c F h =>
          cases h with
          | opt me ty cs b vs F G hw hl h1 h hF hb hd => exact ⟨_, _, _, rfl, slAt_nil hs, cvAt_nil hc, _, b, rfl, rfl, rfl⟩
      | _ => trivial
    | _ => trivial
  | bfn f caps => exact h.2
  | bsl q off len ex => exact h.2
  | bpt q i j => exact h.2
  | bar q j sz len => exact h.2
  | bfc u q => exact h.2
theorem rd_val (R : Sit P w X sl F a gv) {x : Operand} (hx : OkT a x) {s : S} (h : rd sl x = some s) : Val P w X F sl (a.tmps.toList ++ gv) s (a.eval x) := by
  cases x with
  | tmp t =>
    simp only [rd] at h
    cases hs : sl[t]? with
    | none => simp [hs] at h
    | some s0 => simp [hs] at h; subst h; exact slot_val R hs (eval_tmp (hx t rfl) gv)
  | const v =>
    simp only [rd] at h
    cases hk : konst v with
    | none => simp [hk] at h
    | some x =>
      simp [hk] at h; subst h
      rcases konst_val hk w (zs w X F) (zx w F) with ⟨v', rfl, h1, _⟩ | ⟨rfl, rfl⟩
      · exact h1
      · exact fun _ => rfl
  | global g => simp [rd] at h
  | func f =>
    simp [rd] at h; subst h
    exact .fn false f [] [] rfl (by simp)
theorem pv_val (R : Sit P w X sl F a gv) {x : Operand} (hx : OkT a x) {v : V} (h : pv sl x = some v) : PRep w (zs w X F) (zx w F) v (a.eval x) := by
  unfold pv at h
  split at h
  · cases h; rename_i h; exact rd_val R hx h
  · cases h
structure Els (w : World) (Z : Nat → Prop) (sz : Nat) (es : List V) (c : Value) : Prop where
  ex : ∃ a cap, c = .slice a es.length cap ∧ es.length ≤ cap ∧ (es ≠ [] → ∃ b o, a = some ⟨b, o, none⟩ ∧
    ∀ (i j : Nat) (e v : V), es[i]? = some e → e.cells[j]? = some v → ∃ c, w.cell? ⟨b, o + i * sz + j, none⟩ = some c ∧ PRep w Z Z v c)
  len : ∀ (i : Nat) (e : V), es[i]? = some e → e.cells.length = sz
  one : ∀ (i j : Nat) (e v : V), es[i]? = some e → e.cells[j]? = some v → v.one = true
theorem drop_take_get {α : Type} {l : List α} {off len i : Nat} {x : α} (h : ((l.drop off).take len)[i]? = some x) : l[off + i]? = some x ∧ i < len := by
  rw [List.getElem?_take] at h
  split at h
  · exact ⟨by rw [List.getElem?_drop] at h; exact h, by assumption⟩
  · cases h
theorem pures_get : ∀ {ts : List T} {l : List V}, elemsS.T.pures ts = some l → ts.length = l.length ∧ ∀ (i : Nat) (v : V), l[i]? = some v → ts[i]? = some (.p v)
  | [], l, h => by simp [elemsS.T.pures] at h; subst h; simp
  | x :: r, l, h => by
    cases x with
    | p v =>
      simp only [elemsS.T.pures] at h
      split at h
      · rename_i l' hl
        cases h
        obtain ⟨h1, h2⟩ := pures_get hl
        refine ⟨by simp [h1], fun i v hv => ?_⟩
        cases i with
        | zero => simp at hv ⊢; exact hv
        | succ i => simp at hv ⊢; exact h2 i v hv
      · cases h
    | _ => simp [elemsS.T.pures] at h
theorem Rel.node {cv : List Value} (R : Rel P w X sl cv F) {p : Pl} {z : T} {cz : Value} (hz : slAt sl p = some z) (hc : cvAt w cv p = some cz) :
    ∃ me G, TRep P w (zs w X F) (zx w F) me z cz G ∧ ∀ b, G b → F p.s b := by
  simp only [slAt] at hz
  simp only [cvAt] at hc
  cases hs : sl[p.s]? with
  | none => simp [hs] at hz
  | some s =>
    cases hv : cv[p.s]? with
    | none => simp [hv] at hc
    | some c =>
      simp only [hs] at hz
      simp only [hv] at hc
      cases s with
      | t x =>
        have ht : TRep P w (zs w X F) (zx w F) none x c (F p.s) := R.slot p.s _ c hs hv
        obtain ⟨me', c', F', h1, h2, h3, _⟩ := ht.way p.path hz
        rw [h1] at hc; cases hc
        exact ⟨me', F', h2, h3⟩
      | _ => simp at hz
theorem stabL_get : ∀ {l : List V}, V.stabL l = true → ∀ (i : Nat) (v : V), l[i]? = some v → v.stab = true
  | [], _, i, v, h => by simp at h
  | a :: l, hs, i, v, h => by
    simp only [V.stabL, Bool.and_eq_true] at hs
    cases i with
    | zero => simp at h; subst h; exact hs.1
    | succ i => simp at h; exact stabL_get hs.2 i v h
theorem PRep.stay {w : World} {Zs Zx : Nat → Prop} {v : V} {c : Value} (h : PRep w Zs Zx v c) (hs : v.stab = true) : PRep w Zs Zs v c := by
  induction h with
  | bool b => exact .bool b
  | int k n => exact .int k n
  | str s => exact .str s
  | nilp => exact .nilp
  | anyp a => exact .anyp a
  | nilf => exact .nilf
  | nili => exact .nili
  | lenO n a cap => exact .lenO n a cap
  | agg cs vs hl h1 h ih => exact .agg cs vs hl h1 fun i v c k1 k2 => ih i v c k1 k2 (stabL_get hs i v k1)
  | sl0 snap exact sz a cap he => exact .sl0 snap exact sz a cap he
  | sl snap ex sz es b off cap he hc hz hcl h1 hd h ih =>
    simp only [V.stab, Bool.not_eq_true'] at hs
    subst hs
    exact .sl false ex sz es b off cap he hc hz hcl h1 hd h
  | ref snap cs b off hz h1 hd h ih =>
    simp only [V.stab, Bool.not_eq_true'] at hs
    subst hs
    exact .ref false cs b off hz h1 hd h
  | fn snap f caps vs hl h ih =>
    simp only [V.stab, Bool.not_eq_true'] at hs
    subst hs
    exact .fn false f caps vs hl h
  | ifc t v c h ih => exact .ifc t v c (ih hs)
theorem elems_val (R : Sit P w X sl F a gv) {s : S} {c : Value} (hv : Val P w X F sl (a.tmps.toList ++ gv) s c) {sz : Nat} {es : List V} (h : elemsS P sl s = some (sz, es)) :
    Els w (zs w X F) sz es c := by
  have hzz : ∀ b, zs w X F b → zx w F b := zs_zx
  unfold elemsS at h
  split at h
  · cases h
    have hp : PRep w (zs w X F) (zx w F) _ c := hv
    cases hp with
    | sl0 sn ex sz ad cap he => exact ⟨⟨ad, cap, rfl, Nat.zero_le _, by simp⟩, by simp, by simp⟩
    | sl sn ex sz es b off cap he hc hz hcl h1 hd h =>
      refine ⟨⟨some ⟨b, off, none⟩, cap, rfl, hc, fun _ => ⟨b, off, rfl, fun i j e v hi hj => ?_⟩⟩, hcl, h1⟩
      obtain ⟨c, hc⟩ := hd i j e v hi hj
      exact ⟨c, hc, h i j e v c hi hj hc⟩
  · cases h
    have : c = .slice none 0 0 := hv rfl
    subst this
    exact ⟨⟨none, 0, rfl, Nat.le_refl _, by simp⟩, by simp, by simp⟩
  · rename_i p off len ex
    split at h
    · rename_i ty es' hz
      cases h
      obtain ⟨q, z, cz, hq, hz', hc', hb⟩ := hv
      cases hq
      rw [hz] at hz'; cases hz'
      obtain ⟨ty', es, ad, L, cap, ad', cap', he, rfl, h1, rfl, h3, h4, h5, h6⟩ := hb
      cases he
      obtain ⟨me, G, hT, _⟩ := R.rel.node hz hc'
      have hlen : ((es'.drop off).take len).length = len := by simp; omega
      cases hT with
      | own0 => simp at h1; obtain ⟨rfl, rfl⟩ := h1; exact ⟨⟨ad', cap', by simp, by simp, by simp⟩, by simp, by simp⟩
      | own me ty es b o cap vs fz F hw hc hsz hpos hfz hcl h1' h hF =>
        refine ⟨⟨ad', cap', by rw [hlen], by omega, fun hne => ?_⟩, fun i e hi => hcl _ e (drop_take_get hi).1, fun i j e v hi hj => h1' _ j e v (drop_take_get hi).1 hj⟩
        have h0 : cap' ≠ 0 := by
          rintro rfl
          have : len = 0 := by omega
          subst this; simp at hne
        rcases h6 with ⟨h6, _⟩ | ⟨b', o', hbo, ha'⟩
        · exact absurd h6 h0
        · cases hbo
          refine ⟨b, o + off * P.cellsOf ty, ha', fun i j e v hi hj => ?_⟩
          obtain ⟨hi', hil⟩ := drop_take_get hi
          have hj' : j < P.cellsOf ty := by rw [← hcl _ e hi']; exact (List.getElem?_eq_some_iff.1 hj).1
          have hmul : (off + i + 1) * P.cellsOf ty ≤ cap * P.cellsOf ty := Nat.mul_le_mul_right _ (by omega)
          have hlt : o + (off + i) * P.cellsOf ty + j < vs.size := by
            have : (off + i + 1) * P.cellsOf ty = (off + i) * P.cellsOf ty + P.cellsOf ty := by rw [Nat.add_mul, Nat.one_mul]
            omega
          have hidx : o + off * P.cellsOf ty + i * P.cellsOf ty + j = o + (off + i) * P.cellsOf ty + j := by rw [Nat.add_mul]; omega
          refine ⟨vs[o + (off + i) * P.cellsOf ty + j], by rw [hidx, cell_row hw]; exact Array.getElem?_eq_getElem hlt, ?_⟩
          exact h _ j e v _ hi' hj (Array.getElem?_eq_getElem hlt)
    · cases h
  · rename_i p j sz' len
    split at h
    · rename_i ty cs hz
      split at h
      · rename_i h1
        subst h1
        cases hl : elemsS.T.pures ((cs.drop j).take len) with
        | none => simp [hl] at h
        | some l =>
          simp only [hl, if_true, Option.ite_none_right_eq_some, Option.some.injEq, Prod.mk.injEq] at h
          obtain ⟨hstab, rfl, rfl⟩ := h
          obtain ⟨q, z, cz, hq, hz', hc', hb⟩ := hv
          cases hq
          rw [hz] at hz'; cases hz'
          obtain ⟨ty', cs', b, ad, cap, he, rfl, rfl, h2, h3, h4⟩ := hb
          cases he
          obtain ⟨hpl, hpg⟩ := pures_get hl
          obtain ⟨me, G, hT, _⟩ := R.rel.node hz hc'
          cases hT with
          | opt me ty cs b vs F G hw hl' h1 h hF hb hd =>
            have hlen : l.length = len := by rw [← hpl]; simp; omega
            have hcell : ∀ (i : Nat) (v : V), l[i]? = some v → cs[j + i]? = some (.p v) ∧ i < len := fun i v hi => drop_take_get (hpg i v hi)
            have hvone : ∀ (i : Nat) (v : V), l[i]? = some v → v.one = true := fun i v hi => h1 _ v (hcell i v hi).1
            have hcells : ∀ (i : Nat) (v : V), l[i]? = some v → v.cells = [v] := fun i v hi => by
              have := hvone i v hi
              cases v <;> simp_all [V.one, V.cells]
            refine ⟨⟨ad, cap, by rw [hlen], by omega, fun hne => ?_⟩, fun i e hi => by rw [hcells i e hi]; rfl, fun i k e v hi hk => by
              rw [hcells i e hi] at hk
              cases k <;> simp at hk
              subst hk; exact hvone i _ hi⟩
            have h0 : cap ≠ 0 := by
              rintro rfl
              have : len = 0 := by omega
              apply hne; exact List.eq_nil_of_length_eq_zero (by omega)
            rcases h4 with h4 | h4
            · exact absurd h4 h0
            · refine ⟨b, j, h4, fun i k e v hi hk => ?_⟩
              rw [hcells i e hi] at hk
              cases k with
              | succ k => simp at hk
              | zero =>
                simp at hk; subst hk
                obtain ⟨hc1, hc2⟩ := hcell i _ hi
                have hlt : j + i < vs.size := by rw [← hl']; exact (List.getElem?_eq_some_iff.1 hc1).1
                have hT' := h (j + i) _ _ hc1 (Array.getElem?_eq_getElem hlt)
                refine ⟨vs[j + i], by rw [show j + i * 1 + 0 = j + i from by omega, cell_row hw]; exact Array.getElem?_eq_getElem hlt, ?_⟩
                cases hT'
                rename_i hp hF'
                exact hp.stay (stabL_get hstab i _ hi)
      · cases h
    · cases h
  · cases h
end
end
end Go.Proofs.Ytffofdfikmpanaa.A
namespace Go.Proofs.Ytffofdfikmpanaa.A
set_option linter.unusedVariables false
set_option linter.unusedSimpArgs false
section
variable {P : Program} {w : World} {X : Nat → Prop} {sl : List S} {F : Nat → Nat → Prop} {a : Act} {gv : List Value}
abbrev Is (P : Program) (w : World) (m : Sem Value) (c : Value) : Prop := m.run P w = .ok c w
theorem binInt_run {op : BinOp} {t : TypeId} {k k' : IntKind} {x y : Int} {v : V} (h : binInt op k x k' y = some v) :
    ∃ c, Is P w (Go.binOp op t (.int k x) (.int k' y)) c ∧ ∀ Zs Zx, PRep w Zs Zx v c := by
  unfold binInt at h
  cases op <;> simp only [Go.binOp] at h ⊢
  case shl =>
    split at h
    · cases h
    · rename_i hn; cases h
      exact ⟨_, by simp [Is, Op.shift, hn, wordShl], fun _ _ => .int _ _⟩
  case shr =>
    split at h
    · cases h
    · rename_i hn; cases h
      exact ⟨_, by simp [Is, Op.shift, hn, wordShr], fun _ _ => .int _ _⟩
  all_goals
    by_cases hk : k = k'
    · subst hk
      simp only [ne_eq, not_true_eq_false, if_false] at h ⊢
      first
        | (cases h; done)
        | (cases h; exact ⟨_, rfl, fun _ _ => by constructor⟩)
        | (split at h
           · cases h
           · rename_i hn; cases h
             exact ⟨_, by simp only [Is, Op.intDiv, if_neg hn]; rfl, fun _ _ => by constructor⟩)
    · simp [hk] at h
theorem binStr_run {op : BinOp} {t : TypeId} {x y : List UInt8} {v : V} (h : binStr op x y = some v) :
    ∃ c, Is P w (Go.binOp op t (.string ⟨x.toArray⟩) (.string ⟨y.toArray⟩)) c ∧ ∀ Zs Zx, PRep w Zs Zx v c := by
  unfold binStr at h
  have hs : ∀ l : List UInt8, (⟨l.toArray⟩ : ByteArray).size = l.length := fun l => by simp [ByteArray.size]
  cases op <;> simp only [Go.binOp, Op.stringOp, ByteArray.toList_mk] at h ⊢
  case add =>
    split at h
    · rename_i hn; cases h
      have h1 : ¬ ((((⟨x.toArray⟩ : ByteArray).size + (⟨y.toArray⟩ : ByteArray).size : Nat) : Int) > IntKind.i64.max) := by
        simp only [hs, IntKind.max, IntKind.signed, IntKind.bits]; simp; omega
      refine ⟨.string (⟨x.toArray⟩ ++ ⟨y.toArray⟩), by simp only [Is, if_neg h1]; rfl, fun _ _ => ?_⟩
      have : (⟨x.toArray⟩ ++ ⟨y.toArray⟩ : ByteArray) = ⟨(x ++ y).toArray⟩ := by
        apply ByteArray.ext
        simp
      rw [this]; exact .str _
    · cases h
  all_goals first
    | (cases h; done)
    | (cases h; exact ⟨_, rfl, fun _ _ => by first | exact .bool _ | (simp only [Bool.or_comm]; exact .bool _)⟩)
theorem bool_eq_run {t : TypeId} (ht : P.underlying t = some .bool) (x y : Bool) : (Op.equal t (.bool x) (.bool y)).run P w = .ok (x == y) w := by
  show (Op.equalIn (9999 + 1) t _ _).run P w = _
  generalize 9999 = d
  simp [Op.equalIn, Go.run_underlying ht]
theorem ptr_eq_run {t e : TypeId} (ht : P.underlying t = some (.pointer e)) (b : Option Addr) : (Op.equal t (.pointer none) (.pointer b)).run P w = .ok b.isNone w := by
  show (Op.equalIn (9999 + 1) t _ _).run P w = _
  generalize 9999 = d
  simp [Op.equalIn, Go.run_underlying ht]
theorem ptr_eq_run' {t e : TypeId} (ht : P.underlying t = some (.pointer e)) (b : Addr) : (Op.equal t (.pointer (some b)) (.pointer none)).run P w = .ok false w := by
  show (Op.equalIn (9999 + 1) t _ _).run P w = _
  generalize 9999 = d
  simp [Op.equalIn, Go.run_underlying ht]
theorem ptr_same_run {t e : TypeId} (ht : P.underlying t = some (.pointer e)) (he : 0 < P.cellsOf e) (b : Addr) : (Op.equal t (.pointer (some b)) (.pointer (some b))).run P w = .ok true w := by
  have := run_sizeOf he w
  show (Op.equalIn (9999 + 1) t _ _).run P w = _
  generalize 9999 = d
  simp [Op.equalIn, Go.run_underlying ht, this, sameAddr, Nat.ne_of_gt he]
theorem bpt_ptr {cv : List Value} {p : Pl} {i j : Nat} {c : Value} (h : Val P w X F sl cv (.bpt p i j) c) : ∃ ad, c = .pointer (some ad) := by
  obtain ⟨q, z, cz, _, _, _, hb⟩ := h
  rcases hb with ⟨ty, es, b, o, L, cap, _, _, _, _, rfl⟩ | ⟨ty, cs, b, _, _, _, rfl⟩ <;> exact ⟨_, rfl⟩
theorem bpt_same {cv : List Value} {p : Pl} {i j : Nat} {c c' : Value} (h : Val P w X F sl cv (.bpt p i j) c) (h' : Val P w X F sl cv (.bpt p i j) c') : c = c' := by
  obtain ⟨q, z, cz, hq, hz, hc, hb⟩ := h
  obtain ⟨q', z', cz', hq', hz', hc', hb'⟩ := h'
  cases hq; cases hq'
  rw [hz] at hz'; rw [hc] at hc'; cases hz'; cases hc'
  rcases hb with ⟨ty, es, b, o, L, cap, rfl, rfl, _, _, rfl⟩ | ⟨ty, cs, b, rfl, rfl, _, rfl⟩
  · rcases hb' with ⟨ty', es', b', o', L', cap', he, hb, _, _, rfl⟩ | ⟨ty', cs', b', he, _⟩
    · cases he; cases hb; rfl
    · cases he
  · rcases hb' with ⟨ty', es', b', o', L', cap', he, hb, _, _, rfl⟩ | ⟨ty', cs', b', he, hb, _, rfl⟩
    · cases he
    · cases he; cases hb; rfl
theorem intsOf_spec {k : IntKind} : ∀ {n : Nat} {l : List V} {x : List Int}, intsOf k n l = some x → x.length = n ∧ ∀ i, i < n → l[i]? = some (.int k (x.getD i 0))
  | 0, l, x, h => by
    simp only [intsOf, Option.some.injEq] at h
    subst h
    exact ⟨rfl, fun i hi => by omega⟩
  | n + 1, [], x, h => by simp [intsOf] at h
  | n + 1, v :: l, x, h => by
    simp only [intsOf] at h
    split at h
    · split at h
      · rename_i hk; subst hk
        split at h
        · rename_i r hr
          cases h
          obtain ⟨h1, h2⟩ := intsOf_spec hr
          refine ⟨by simp [h1], fun i hi => ?_⟩
          cases i with
          | zero => simp
          | succ i => simpa using h2 i (by omega)
        · cases h
      · cases h
    · cases h
theorem all_range {x y : List Int} {n : Nat} (hx : x.length = n) (hy : y.length = n) : ((List.range n).all fun i => x.getD i 0 == y.getD i 0) = (x == y) := by
  rw [Bool.eq_iff_iff]
  simp only [List.all_eq_true, List.mem_range, beq_iff_eq]
  constructor
  · intro h
    refine List.ext_getElem (by omega) fun i h1 h2 => ?_
    have := h i (by omega)
    simpa [List.getD, List.getElem?_eq_getElem h1, List.getElem?_eq_getElem h2] using this
  · rintro rfl i _; rfl
theorem eqItems_run {e : TypeId} {q : IntKind} (he : P.underlying e = some (.int q)) (d : Nat) {xs ys : Array Value} {x y : List Int} : ∀ (is : List Nat), (∀ i ∈ is, xs[i]? = some (.int q (x.getD i 0)) ∧ ys[i]? = some (.int q (y.getD i 0))) →
    (Op.eqItems (d + 1) e 1 xs ys is).run P w = .ok (is.all fun i => x.getD i 0 == y.getD i 0) w
  | [], _ => by simp [Op.eqItems]
  | i :: is, h => by
    obtain ⟨h1, h2⟩ := h i (by simp)
    have hp : P.plainKey e = true := by simp [Program.plainKey, he]
    have he' : (Op.equalIn (d + 1) e (.int q (x.getD i 0)) (.int q (y.getD i 0))).run P w = .ok (x.getD i 0 == y.getD i 0) w := by simp [Op.equalIn, Go.run_underlying he]
    have ih := eqItems_run he d is fun j hj => h j (by simp [hj])
    simp only [Op.eqItems, Nat.mul_one, Sem.run_bind, run_part_plain w hp h1, run_part_plain w hp h2, Result.andThen_ok, he']
    rw [List.all_cons]
    generalize (x.getD i 0 == y.getD i 0) = r
    cases r with
    | false => rfl
    | true => simpa using ih
theorem sameArr_run {t : TypeId} {a b : List V} {r : Bool} {ca cb : Value} {Zs Zx : Nat → Prop} (h : sameArr P t a b = some r) (ha : PRep w Zs Zx (.agg a) ca) (hb : PRep w Zs Zx (.agg b) cb) :
    (Op.equal t ca cb).run P w = .ok r w ∧ P.eqGuardType P.depth t = false ∧ ∃ xs ys, ca = .agg xs ∧ cb = .agg ys := by
  unfold sameArr at h
  split at h
  · rename_i n e ht
    split at h
    · rename_i q he
      split at h
      · rename_i hc
        split at h
        · rename_i x y hx hy
          cases h
          cases ha with
          | agg _ vs hl1 _ h1 =>
          cases hb with
          | agg _ us hl2 _ h2 =>
            obtain ⟨hxl, hx⟩ := intsOf_spec hx
            obtain ⟨hyl, hy⟩ := intsOf_spec hy
            have cell : ∀ {l : List V} {vs : List Value} {x : List Int}, l.length = vs.length → (∀ (i : Nat) (v : V) (c : Value), l[i]? = some v → vs[i]? = some c → PRep w Zs Zx v c) → (∀ i, i < n → l[i]? = some (.int q (x.getD i 0))) →
                ∀ i, i < n → vs.toArray[i]? = some (.int q (x.getD i 0)) := by
              intro l vs x hl hr hx i hi
              have h1 := hx i hi
              have hlt : i < vs.length := by rw [← hl]; exact (List.getElem?_eq_some_iff.1 h1).1
              have := hr i _ _ h1 (List.getElem?_eq_getElem hlt)
              generalize hc : vs[i] = c at this
              cases this
              simp [List.getElem?_eq_getElem hlt, hc]
            obtain ⟨ie, hie⟩ := info_of_underlying he
            refine ⟨?_, hc.1, _, _, rfl, rfl⟩
            show (Op.equalIn (9999 + 1) t _ _).run P w = _
            rw [run_equalIn_array w 9999 _ _ ht hie, hc.2]
            rw [← all_range hxl hyl]
            exact eqItems_run he 9998 _ fun i hi => ⟨cell hl1 h1 hx i (by simpa using hi), cell hl2 h2 hy i (by simpa using hi)⟩
        · cases h
      · cases h
    · cases h
  · cases h
theorem notNil_run {op : BinOp} {t ty : TypeId} {v : V} (h : notNil P op t ty = some v) (ad : Addr) (n c : Nat) :
    ∃ c', Is P w (Go.binOp op t (.slice (some ad) n c) (.slice none 0 0)) c' ∧ (∀ Zs Zx, PRep w Zs Zx v c') ∧ (op = .eql ∨ op = .neq) := by
  unfold notNil at h
  split at h
  · split at h
    · rename_i e ht
      cases h
      have : (Op.equal t (.slice (some ad) n c) (.slice none 0 0)).run P w = .ok false w := by
        show (Op.equalIn (9999 + 1) t _ _).run P w = _
        generalize 9999 = d
        simp [Op.equalIn, Go.run_underlying ht]
      exact ⟨.bool false, by simp [Is, Go.binOp, this], fun _ _ => .bool _, .inl rfl⟩
    · rename_i e ht
      cases h
      have : (Op.equal t (.slice (some ad) n c) (.slice none 0 0)).run P w = .ok false w := by
        show (Op.equalIn (9999 + 1) t _ _).run P w = _
        generalize 9999 = d
        simp [Op.equalIn, Go.run_underlying ht]
      exact ⟨.bool true, by simp [Is, Go.binOp, this], fun _ _ => .bool _, .inr rfl⟩
    · cases h
  · cases h
theorem bin_run {op : BinOp} {t : TypeId} {x y : S} {cx cy : Value} {xo yo : Operand} {v : V} (hx : Val P w X F sl (a.tmps.toList ++ gv) x cx) (hy : Val P w X F sl (a.tmps.toList ++ gv) y cy)
    (h : bin P op t sl x y = some v) : ∃ c, Is P w (do eqGuard op t xo yo cx cy; Go.binOp op t cx cy) c ∧ PRep w (zs w X F) (zx w F) v c := by
  have guard : ∀ {cx cy : Value}, (∀ l, cx ≠ .agg l) → cx ≠ .nilIface → (eqGuard op t xo yo cx cy).run P w = .ok () w := by
    intro cx cy h1 h2
    unfold eqGuard
    cases op <;> first
      | rfl
      | (cases cx <;> first
          | rfl
          | exact absurd rfl h2
          | exact absurd rfl (h1 _))
  have gd : ∀ {cx cy c : Value}, (∀ l, cx ≠ .agg l) → cx ≠ .nilIface → Is P w (Go.binOp op t cx cy) c → Is P w (do eqGuard op t xo yo cx cy; Go.binOp op t cx cy) c := by
    intro cx cy c h1 h2 h3
    show Sem.run P (eqGuard op t xo yo cx cy >>= fun _ => Go.binOp op t cx cy) w = _
    rw [Sem.run_bind, guard h1 h2]
    exact h3
  unfold bin at h
  split at h
  · rename_i k n k' n'
    cases hx; cases hy
    obtain ⟨c, h1, h2⟩ := binInt_run (P := P) (w := w) (t := t) h
    exact ⟨c, gd (by simp) (by simp) h1, h2 _ _⟩
  · cases hx; cases hy
    obtain ⟨c, h1, h2⟩ := binStr_run (P := P) (w := w) (t := t) h
    exact ⟨c, gd (by simp) (by simp) h1, h2 _ _⟩
  · cases hx; cases hy
    split at h
    · rename_i ht; cases h
      exact ⟨_, gd (by simp) (by simp) (by simp [Is, Go.binOp, bool_eq_run ht]; try rfl), .bool _⟩
    · rename_i ht; cases h
      exact ⟨_, gd (by simp) (by simp) (by simp [Is, Go.binOp, bool_eq_run ht]; try rfl), .bool _⟩
    · cases h
  · cases hx; cases hy
    split at h
    · rename_i ht; cases h
      exact ⟨_, gd (by simp) (by simp) (by simp [Is, Go.binOp, ptr_eq_run ht]; try rfl), .bool _⟩
    · rename_i ht; cases h
      exact ⟨_, gd (by simp) (by simp) (by simp [Is, Go.binOp, ptr_eq_run ht]; try rfl), .bool _⟩
    · cases h
  · cases hy
    obtain ⟨ad, rfl⟩ := bpt_ptr hx
    split at h
    · rename_i ht; cases h
      exact ⟨_, gd (by simp) (by simp) (by simp [Is, Go.binOp, ptr_eq_run' ht]; try rfl), .bool _⟩
    · rename_i ht; cases h
      exact ⟨_, gd (by simp) (by simp) (by simp [Is, Go.binOp, ptr_eq_run' ht]; try rfl), .bool _⟩
    · cases h
  · split at h
    · rename_i he
      obtain ⟨rfl, rfl, rfl⟩ := he
      obtain ⟨ad, rfl⟩ := bpt_ptr hx
      have := bpt_same hx hy
      subst this
      split at h
      · rename_i ht
        split at h
        · cases h
        · rename_i hn; cases h
          exact ⟨_, gd (by simp) (by simp) (by simp [Is, Go.binOp, ptr_same_run ht (Nat.pos_of_ne_zero hn)]; try rfl), .bool _⟩
      · rename_i ht
        split at h
        · cases h
        · rename_i hn; cases h
          exact ⟨_, gd (by simp) (by simp) (by simp [Is, Go.binOp, ptr_same_run ht (Nat.pos_of_ne_zero hn)]; try rfl), .bool _⟩
      · cases h
    · cases h
  · rename_i la lb
    have key : ∀ r, sameArr P t la lb = some r → ∀ r' : Bool, ((op = .eql ∧ r' = r) ∨ (op = .neq ∧ r' = !r)) → ∃ c, Is P w (do eqGuard op t xo yo cx cy; Go.binOp op t cx cy) c ∧ PRep w (zs w X F) (zx w F) (.bool r') c := by
      intro r hr r' ho
      obtain ⟨h1, h2, xs, ys, rfl, rfl⟩ := sameArr_run hr hx hy
      have hg : (eqGuard op t xo yo (.agg xs) (.agg ys)).run P w = .ok () w := by
        cases op <;> simp [eqGuard, run_program, h2]
      refine ⟨.bool r', ?_, .bool _⟩
      show Sem.run P (eqGuard op t xo yo _ _ >>= fun _ => Go.binOp op t _ _) w = _
      rw [Sem.run_bind, hg, Result.andThen_ok]
      rcases ho with ⟨rfl, rfl⟩ | ⟨rfl, rfl⟩ <;> simp [Go.binOp, h1]
    split at h
    · split at h
      · rename_i r hr; cases h; exact key r hr _ (.inl ⟨rfl, rfl⟩)
      · cases h
    · split at h
      · rename_i r hr; cases h; exact key r hr _ (.inr ⟨rfl, rfl⟩)
      · cases h
    · cases h
  · rename_i sn ex sz e es ty
    have hy' : cy = .slice none 0 0 := hy rfl
    subst hy'
    cases hx with
    | sl _ _ _ _ b off cap he hc hz hcl h1 hd hr =>
      obtain ⟨c', h1, h2, h3⟩ := notNil_run (w := w) h ⟨b, off, none⟩ (e :: es).length cap
      exact ⟨c', gd (by simp) (by simp) h1, h2 _ _⟩
  · split at h
    · rename_i p off len ex ty hpos
      have hy' : cy = .slice none 0 0 := hy rfl
      subst hy'
      obtain ⟨q, z, cz, hq, hz, hc, hb⟩ := hx
      obtain ⟨ty', es', ad, L, cap, ad', cap', rfl, rfl, h2, rfl, h3, h4, h5, h6⟩ := hb
      rcases h6 with ⟨h6, _⟩ | ⟨b, o, rfl, rfl⟩
      · omega
      · obtain ⟨c', h1, h2, h3⟩ := notNil_run (w := w) h ⟨b, o + off * P.cellsOf ty', none⟩ len cap'
        exact ⟨c', gd (by simp) (by simp) h1, h2 _ _⟩
    · cases h
  · cases hx; cases hy
    have both : ∀ {ps rs v}, P.underlying t = some (.func ps rs v) → (Op.equal t .nilFunc .nilFunc).run P w = .ok true w := by
      intro ps rs v ht
      show (Op.equalIn (9999 + 1) t _ _).run P w = _
      generalize 9999 = d
      simp [Op.equalIn, Go.run_underlying ht]
    split at h
    · rename_i ht; cases h
      exact ⟨_, gd (by simp) (by simp) (by simp [Is, Go.binOp, both ht]; try rfl), .bool _⟩
    · rename_i ht; cases h
      exact ⟨_, gd (by simp) (by simp) (by simp [Is, Go.binOp, both ht]; try rfl), .bool _⟩
    · cases h
  · cases hy
    cases hx with
    | fn sn f caps vs hl hcap =>
    have one : ∀ {g : FuncId} {ps rs v}, P.underlying t = some (.func ps rs v) → (Op.equal t (.func (.func g) #[] vs.toArray) .nilFunc).run P w = .ok false w := by
      intro g ps rs v ht
      show (Op.equalIn (9999 + 1) t _ _).run P w = _
      generalize 9999 = d
      simp [Op.equalIn, Go.run_underlying ht]
    split at h
    · rename_i ht; cases h
      exact ⟨_, gd (by simp) (by simp) (by simp [Is, Go.binOp, one ht]; try rfl), .bool _⟩
    · rename_i ht; cases h
      exact ⟨_, gd (by simp) (by simp) (by simp [Is, Go.binOp, one ht]; try rfl), .bool _⟩
    · cases h
  · cases h
theorem un_run {op : UnOp} {x v : V} {c : Value} {Zs Zx : Nat → Prop} (hx : PRep w Zs Zx x c) (h : un op x = some v) : ∃ c', Is P w (Op.unary op c) c' ∧ PRep w Zs Zx v c' := by
  unfold un at h
  split at h
  · cases hx
    cases op <;> first
      | (cases h; done)
      | (cases h; exact ⟨_, rfl, .bool _⟩)
  · cases hx
    cases op <;> first
      | (cases h; done)
      | (cases h; exact ⟨_, rfl, .int _ _⟩)
  · cases h
end
end Go.Proofs.Ytffofdfikmpanaa.A
namespace Go.Proofs.Ytffofdfikmpanaa.A
set_option linter.unusedVariables false
set_option linter.unusedSimpArgs false
section
variable {P : Program} {w : World} {X : Nat → Prop} {sl : List S} {F : Nat → Nat → Prop} {a : Act} {gv : List Value}
theorem add_at (b o j : Nat) : (⟨b, o, none⟩ : Addr).add j = ⟨b, o + j, none⟩ := by
  unfold Addr.add; split
  · subst_vars; rfl
  · rfl
theorem at_append {x y z : T} {p q : List Nat} (h : x.at p = some y) (h' : y.at q = some z) : x.at (p ++ q) = some z := by
  induction p generalizing x with
  | nil => simp only [T.at, Option.some.injEq] at h; subst h; exact h'
  | cons j r ih =>
    simp only [List.cons_append, T.at] at h ⊢
    cases hk : x.kids with
    | none => simp [hk] at h
    | some cs =>
      simp only [hk] at h ⊢
      cases hj : cs[j]? with
      | none => simp [hj] at h
      | some t => simp only [hj] at h ⊢; exact ih h
theorem cAt_append {c c' c'' : Value} {p q : List Nat} (h : cAt w c p = some c') (h' : cAt w c' q = some c'') : cAt w c (p ++ q) = some c'' := by
  induction p generalizing c with
  | nil => simp only [cAt, Option.some.injEq] at h; subst h; exact h'
  | cons j r ih =>
    have step : ∀ ad : Addr, (match w.cell? (ad.add j) with | some c' => cAt w c' r | none => none) = some c' → (match w.cell? (ad.add j) with | some c' => cAt w c' (r ++ q) | none => none) = some c'' := by
      intro ad hh
      cases hc : w.cell? (ad.add j) with
      | none => simp [hc] at hh
      | some c1 => simp only [hc] at hh ⊢; exact ih hh
    cases c with
    | pointer ad =>
      cases ad with
      | none => simp [cAt] at h
      | some ad => exact step ad h
    | iface t c1 =>
      cases j with
      | zero => simp only [cAt, List.cons_append] at h ⊢; exact ih h
      | succ j => simp [cAt] at h
    | _ => simp [cAt] at h
theorem slAt_snoc {p : Pl} {ty : TypeId} {cs : List T} {j : Nat} {x : T} (h : slAt sl p = some (.opt ty cs)) (hj : cs[j]? = some x) : slAt sl ⟨p.s, p.path ++ [j]⟩ = some x := by
  simp only [slAt] at *
  cases hs : sl[p.s]? with
  | none => simp [hs] at h
  | some s =>
    cases s with
    | t y => simp only [hs] at h ⊢; exact at_append h (by simp [T.at, T.kids, hj])
    | _ => simp [hs] at h
theorem cvAt_snoc {cv : List Value} {p : Pl} {b j : Nat} {c : Value} (h : cvAt w cv p = some (.pointer (some ⟨b, 0, none⟩))) (hj : w.cell? ⟨b, j, none⟩ = some c) : cvAt w cv ⟨p.s, p.path ++ [j]⟩ = some c := by
  simp only [cvAt] at *
  cases hs : cv[p.s]? with
  | none => simp [hs] at h
  | some y => simp only [hs] at h ⊢; exact cAt_append h (by simp [cAt, Addr.add0, hj])
theorem slAt_down {p : Pl} {u : TypeId} {x : T} (h : slAt sl p = some (.ifc u x)) : slAt sl ⟨p.s, p.path ++ [0]⟩ = some x := by
  simp only [slAt] at *
  cases hs : sl[p.s]? with
  | none => simp [hs] at h
  | some s =>
    cases s with
    | t y => simp only [hs] at h ⊢; exact at_append h (by simp [T.at, T.kids])
    | _ => simp [hs] at h
theorem cvAt_down {cv : List Value} {p : Pl} {u : TypeId} {c : Value} (h : cvAt w cv p = some (.iface u c)) : cvAt w cv ⟨p.s, p.path ++ [0]⟩ = some c := by
  simp only [cvAt] at *
  cases hs : cv[p.s]? with
  | none => simp [hs] at h
  | some y => simp only [hs] at h ⊢; exact cAt_append h (by simp [cAt])
theorem run_loadVar1 {t : TypeId} (h : aggT P t = some false) {ad : Addr} {c : Value} (hc : w.cell? ad = some c) : (loadVar t ad).run P w = .ok c w := by
  simp [loadVar, run_isAgg h, hc]
theorem run_loadVarN {t : TypeId} (h : aggT P t = some true) (hp : 0 < P.cellsOf t) {ad : Addr} {cs : List Value} (hl : cs.length = P.cellsOf t) (hc : ∀ (j : Nat) (v : Value), cs[j]? = some v → w.cell? (ad.add j) = some v) :
    (loadVar t ad).run P w = .ok (.agg cs.toArray) w := by
  have := run_loadCells_list (P := P) w ad cs hc
  simp [loadVar, run_isAgg h, run_sizeOf hp, ← hl, this]
theorem run_loadAt {t : TypeId} {ad : Addr} {c : Value} (h : (loadVar t ad).run P w = .ok c w) : Is P w (Instr.loadAt t (.pointer (some ad))) c := by
  simp [Is, Instr.loadAt, Instr.sureAddr, h]
theorem listOf {α : Type} (n : Nat) (f : Nat → Option α) (h : ∀ i, i < n → ∃ x, f i = some x) : ∃ l : List α, l.length = n ∧ ∀ i, i < n → l[i]? = f i := by
  induction n with
  | zero => exact ⟨[], rfl, by simp⟩
  | succ n ih =>
    obtain ⟨l, hl, hg⟩ := ih fun i hi => h i (by omega)
    obtain ⟨x, hx⟩ := h n (by omega)
    refine ⟨l ++ [x], by simp [hl], fun i hi => ?_⟩
    by_cases hin : i < n
    · rw [List.getElem?_append_left (by omega)]; exact hg i hin
    · have : i = n := by omega
      subst this
      rw [List.getElem?_append_right (by omega), hl, hx]; simp
theorem pure_val {v : V} {c : Value} {cv : List Value} (h : PRep w (zs w X F) (zx w F) v c) : Val P w X F sl cv (.t (.p v)) c := h
theorem up {v : V} {c : Value} (h : PRep w (zs w X F) (zs w X F) v c) : PRep w (zs w X F) (zx w F) v c := h.mono (fun _ h => h) (fun _ h => h) zs_zx fun _ _ => rfl
theorem up' {sn : Bool} {v : V} {c : Value} (h : PRep w (zs w X F) (if sn then zx w F else zs w X F) v c) : PRep w (zs w X F) (zx w F) v c := by
  cases sn
  · exact up h
  · exact h
theorem load_run (R : Sit P w X sl F a gv) {t : TypeId} {s s' : S} {c : Value} (hv : Val P w X F sl (a.tmps.toList ++ gv) s c) (h : load P t sl s = some s') :
    ∃ c', Is P w (Instr.loadAt t c) c' ∧ Val P w X F sl (a.tmps.toList ++ gv) s' c' := by
  unfold load at h
  split at h
  · rename_i sn cs
    cases hv with
    | ref sn cs b off hz h1 hd hc =>
      split at h
      · rename_i hag
        split at h
        · rename_i hn; cases h
          obtain ⟨l, hl, hg⟩ := listOf (P.cellsOf t) (fun j => w.cell? ⟨b, off + j, none⟩) fun j hj => hd j _ (List.getElem?_eq_getElem (by omega))
          refine ⟨_, run_loadAt (run_loadVarN hag hn.2 hl fun j v hj => ?_), pure_val ?_⟩
          · have hj' : j < P.cellsOf t := by rw [← hl]; exact (List.getElem?_eq_some_iff.1 hj).1
            rw [add_at, ← hg j hj']; exact hj
          · refine .agg _ _ (by simp [hl]; omega) (fun i v hi => h1 i v ?_) fun i v c hi hci => ?_
            · rw [List.getElem?_take] at hi; split at hi <;> simp_all
            · rw [List.getElem?_take] at hi
              split at hi
              · rename_i hlt
                rw [hg i hlt] at hci
                exact up' (hc i v c hi hci)
              · cases hi
        · cases h
      · rename_i hag
        cases cs with
        | nil => cases h
        | cons v cs =>
          cases h
          obtain ⟨c, hcc⟩ := hd 0 v rfl
          exact ⟨c, run_loadAt (run_loadVar1 hag hcc), pure_val (up' (hc 0 v c rfl hcc))⟩
      · cases h
  · rename_i p i j
    obtain ⟨q, z, cz, hq, hz, hcz, hb⟩ := hv
    cases hq
    split at h
    · rename_i ty es hz'
      rw [hz] at hz'; cases hz'
      rcases hb with ⟨ty', es', b, o, L, cap, he, rfl, hi, hj, rfl⟩ | ⟨_, _, _, he, _⟩
      · cases he
        obtain ⟨me, G, hT, _⟩ := R.rel.node hz hcz
        cases hT with
        | own0 => exact absurd hi (by simp)
        | own me ty es b o cap vs fz F hw hc hsz hpos hfz hcl h1 hr hF =>
          have he : es[i]? = some es[i] := List.getElem?_eq_getElem hi
          rw [he] at h
          simp only at h
          have hmul : (i + 1) * P.cellsOf ty ≤ cap * P.cellsOf ty := Nat.mul_le_mul_right _ (by omega)
          have hsucc : (i + 1) * P.cellsOf ty = i * P.cellsOf ty + P.cellsOf ty := by rw [Nat.add_mul, Nat.one_mul]
          have hcell : ∀ k, k < P.cellsOf ty → w.cell? ⟨b, o + i * P.cellsOf ty + k, none⟩ = vs[o + i * P.cellsOf ty + k]? := fun k _ => cell_row hw _
          split at h
          · rename_i hag
            split at h
            · rename_i hn; cases h
              rw [hcl i _ he] at hn
              obtain ⟨l, hl, hg⟩ := listOf (P.cellsOf t) (fun k => vs[o + i * P.cellsOf ty + (j + k)]?) fun k hk => ⟨_, Array.getElem?_eq_getElem (by omega)⟩
              refine ⟨_, run_loadAt (run_loadVarN hag hn.2 hl fun k v hk => ?_), pure_val ?_⟩
              · have hk' : k < P.cellsOf t := by rw [← hl]; exact (List.getElem?_eq_some_iff.1 hk).1
                rw [add_at, Nat.add_assoc _ j k, hcell _ (by omega), ← hg k hk']; exact hk
              · refine .agg _ _ (by simp [hl]; have := hcl i _ he; omega) (fun k v hk => h1 i (j + k) _ v he (drop_take_get hk).1) fun k v c hk hck => ?_
                obtain ⟨hk1, hk2⟩ := drop_take_get hk
                rw [hg k hk2] at hck
                exact up (hr i (j + k) _ v c he hk1 hck)
            · cases h
          · rename_i hag
            split at h
            · rename_i v hv; cases h
              have hlt : o + i * P.cellsOf ty + j < vs.size := by omega
              exact ⟨_, run_loadAt (run_loadVar1 hag (by rw [hcell j hj]; exact Array.getElem?_eq_getElem hlt)), pure_val (up (hr i j _ v _ he hv (Array.getElem?_eq_getElem hlt)))⟩
            · cases h
          · cases h
      · cases he
    · rename_i ty cs hz'
      rw [hz] at hz'; cases hz'
      rcases hb with ⟨_, _, _, _, _, _, he, _⟩ | ⟨ty', cs', b, he, rfl, rfl, rfl⟩
      · cases he
      · cases he
        obtain ⟨me, G, hT, _⟩ := R.rel.node hz hcz
        cases hT with
        | opt me ty cs b vs F G hw hl h1 hr hF hb hd =>
          have hcell : ∀ k, w.cell? ⟨b, k, none⟩ = vs[k]? := fun k => cell_row hw _
          split at h
          · rename_i hag
            split at h
            · rename_i hn
              split at h
              · rename_i l' hl'
                cases h
                obtain ⟨hpl, hpg⟩ := pures_get hl'
                obtain ⟨l, hll, hg⟩ := listOf (P.cellsOf t) (fun k => vs[j + k]?) fun k hk => ⟨_, Array.getElem?_eq_getElem (by omega)⟩
                refine ⟨_, run_loadAt (run_loadVarN hag hn.2 hll fun k v hk => ?_), pure_val ?_⟩
                · have hk' : k < P.cellsOf t := by rw [← hll]; exact (List.getElem?_eq_some_iff.1 hk).1
                  rw [add_at, hcell, ← hg k hk']; exact hk
                · refine .agg _ _ (by rw [← hpl, hll]; simp; omega) (fun k v hk => h1 _ v (drop_take_get (hpg k v hk)).1) fun k v c hk hck => ?_
                  obtain ⟨hk1, hk2⟩ := drop_take_get (hpg k v hk)
                  rw [hg k hk2] at hck
                  have := hr _ _ _ hk1 hck
                  cases this
                  assumption
              · cases h
            · cases h
          · rename_i hag
            split at h
            · rename_i x hx
              have hlt : j < vs.size := by rw [← hl]; exact (List.getElem?_eq_some_iff.1 hx).1
              have hcx : w.cell? ⟨b, j, none⟩ = some vs[j] := by rw [hcell]; exact Array.getElem?_eq_getElem hlt
              have hTx := hr j x _ hx (Array.getElem?_eq_getElem hlt)
              refine ⟨_, run_loadAt (run_loadVar1 hag hcx), ?_⟩
              have hs2 := slAt_snoc hz hx
              have hc2 := cvAt_snoc hcz hcx
              cases x with
              | p v => cases h; cases hTx; assumption
              | own ty' es => cases h; exact ⟨_, _, _, rfl, hs2, hc2, own_borrow hTx _⟩
              | opt ty' cs' => cases h; exact ⟨_, _, _, rfl, hs2, hc2, opt_borrow hTx _⟩
              | self =>
                cases h
                refine ⟨_, _, _, rfl, hz, hcz, .inr ⟨ty, cs, b, rfl, rfl, rfl, ?_⟩⟩
                generalize vs[j] = c0 at hTx
                cases hTx; rfl
              | ifc u y =>
                cases y with
                | opt ty' cs' =>
                  cases h
                  generalize vs[j] = c0 at hTx hc2
                  cases hTx with
                  | ifc me t x c F h =>
                    cases h with
                    | opt me ty cs b vs F G hw hl h1 h hF hb hd => exact ⟨_, _, _, rfl, hs2, hc2, _, b, rfl, rfl, rfl⟩
                | _ => cases h
              | _ => cases h
            · cases h
          · cases h
    · cases h
  · cases h
end
end Go.Proofs.Ytffofdfikmpanaa.A
namespace Go.Proofs.Ytffofdfikmpanaa.A
set_option linter.unusedVariables false
set_option linter.unusedSimpArgs false
section
variable {P : Program} {w : World} {X : Nat → Prop} {sl : List S} {F : Nat → Nat → Prop} {a : Act} {gv : List Value}
theorem unbytes_get : ∀ {es : List V} {l : List UInt8}, unbytes es = some l → es.length = l.length ∧ ∀ (i : Nat) (b : UInt8), l[i]? = some b → ∃ n, es[i]? = some (.int .u8 n) ∧ b = UInt8.ofNat n.toNat
  | [], l, h => by simp [unbytes] at h; subst h; simp
  | e :: r, l, h => by
    simp only [unbytes] at h
    split at h
    · rename_i b l' hb hl
      cases h
      obtain ⟨h1, h2⟩ := unbytes_get hl
      refine ⟨by simp [h1], fun i c hc => ?_⟩
      cases i with
      | zero =>
        simp at hc; subst hc
        unfold unbyte at hb
        split at hb
        · cases hb; exact ⟨_, rfl, rfl⟩
        · cases hb
      | succ i => simp at hc ⊢; exact h2 i c hc
    · cases h
theorem foldl_push (l : List UInt8) (ns : List Int) (h : ns.length = l.length) (hg : ∀ (i : Nat) (n : Int), ns[i]? = some n → l[i]? = some (UInt8.ofNat n.toNat)) :
    ns.foldl (fun r n => ByteArray.push r (UInt8.ofNat n.toNat)) ByteArray.empty = ⟨l.toArray⟩ := by
  have hl : l = ns.map fun n => UInt8.ofNat n.toNat := by
    apply List.ext_getElem? fun i => ?_
    rw [List.getElem?_map]
    cases hn : ns[i]? with
    | none =>
      have : ns.length ≤ i := by simpa using hn
      simp; omega
    | some n => simpa using hg i n hn
  subst hl
  have key : ∀ (ns : List Int) (acc : ByteArray), ns.foldl (fun r n => ByteArray.push r (UInt8.ofNat n.toNat)) acc = ⟨acc.data ++ (ns.map fun n => UInt8.ofNat n.toNat).toArray⟩ := by
    intro ns
    induction ns with
    | nil => intro acc; simp
    | cons n ns ih =>
      intro acc
      simp only [List.foldl_cons, List.map_cons]
      rw [ih]
      congr 1
      apply Array.ext'
      simp [ByteArray.push]
  have := key ns ByteArray.empty
  rw [this]
  congr 1
  exact Array.empty_append
theorem bytes_string {Z : Nat → Prop} {sz : Nat} {es : List V} {c : Value} {l : List UInt8} (h : Els w Z sz es c) (hb : unbytes es = some l) :
    (Conv.bytesToString c).run P w = .ok (.string ⟨l.toArray⟩) w := by
  obtain ⟨ad, cap, rfl, hc, hne⟩ := h.ex
  obtain ⟨hlen, hget⟩ := unbytes_get hb
  by_cases he : es = []
  · subst he
    have : l = [] := List.eq_nil_of_length_eq_zero (by simpa using hlen.symm)
    subst this
    cases ad with
    | none => simp [Conv.bytesToString]; rfl
    | some ad => 
      have := run_bytesToString (P := P) w ad 0 cap [] (by simp [loadCells, loadCellsFrom])
      simp only [List.length_nil]
      rw [this]; rfl
  · obtain ⟨b, o, rfl, hcells⟩ := hne he
    obtain ⟨ns, hns, hng⟩ := listOf (α := Int) es.length (fun i => match es[i]? with | some (.int .u8 n) => some n | _ => none) (fun i hi => by
      obtain ⟨n, hn, _⟩ := hget i l[i] (List.getElem?_eq_getElem (by omega))
      rw [hn]; exact ⟨n, rfl⟩)
    have hes : ∀ (i : Nat) (n : Int), ns[i]? = some n → es[i]? = some (V.int .u8 n) := by
      intro i n hn
      have hi : i < es.length := by rw [← hns]; exact (List.getElem?_eq_some_iff.1 hn).1
      rw [hng i hi] at hn
      split at hn
      · cases hn; assumption
      · cases hn
    have hsz : sz = 1 := by
      cases es with
      | nil => exact absurd rfl he
      | cons e r =>
        have h00 : 0 < ns.length := by rw [hns]; simp
        have h0 : ns[0]? = some ns[0] := List.getElem?_eq_getElem h00
        have := hes 0 _ h0
        have h1 := h.len 0 e rfl
        simp at this; subst this; simpa [V.cells] using h1.symm
    subst hsz
    have hload : (loadCells ⟨b, o, none⟩ es.length).run P w = .ok (ns.map (Value.int .u8)).toArray w := by
      have := run_loadCells_list (P := P) w ⟨b, o, none⟩ (ns.map (Value.int .u8)) (fun j v hj => by
        rw [List.getElem?_map] at hj
        cases hn : ns[j]? with
        | none => simp [hn] at hj
        | some n =>
          simp [hn] at hj; subst hj
          obtain ⟨c, hc1, hc2⟩ := hcells j 0 _ _ (hes j n hn) rfl
          cases hc2
          rw [add_at, ← hc1]; congr 2; omega)
      simpa [hns] using this
    rw [run_bytesToString w _ _ cap ns hload, foldl_push l ns (by omega) fun i n hn => ?_]
    have hi : i < l.length := by rw [← hlen, ← hns]; exact (List.getElem?_eq_some_iff.1 hn).1
    obtain ⟨n', hn', hb'⟩ := hget i l[i] (List.getElem?_eq_getElem hi)
    have := hes i n hn
    rw [this] at hn'; cases hn'
    rw [List.getElem?_eq_getElem hi, hb']
theorem sameLayout_refl (P : Program) (t : TypeId) (d : Nat) : sameLayout P (d + 1) t t = true := by
  unfold sameLayout; simp
theorem lies_self (P : Program) {t : TypeId} (h : 0 < P.cellsOf t) : liesAt P P.depth t 1 0 t 1 = true := by
  unfold Program.depth
  unfold liesAt
  have : rowAt P (fun x => sameLayout P (2 * (P.types.size + Made.depth) + 2) x t) (2 * (P.types.size + Made.depth) + 2) t 1 0 1 = true := by
    unfold rowAt
    have hn : ¬ P.cellsOf t = 0 := by omega
    simp only [hn, if_false, Nat.zero_div, Nat.zero_mod]
    simp [sameLayout_refl]
  simp [Program.depth, this]
theorem shape_row {b : Nat} {vs : Array Value} {ty : TypeId} {fz : Nat × Nat} (h : w.heap[b]? = some (.cells vs ty fz)) : w.shape? b = some (ty, vs.size) := by
  simp [World.shape?, h]
theorem conv_run (R : Sit P w X sl F a gv) {src dst : TypeId} {s s' : S} {c : Value} (hv : Val P w X F sl (a.tmps.toList ++ gv) s c) (h : conv P src dst sl s = some s') :
    ∃ c', Is P w (Go.convert src dst c) c' ∧ Val P w X F sl (a.tmps.toList ++ gv) s' c' := by
  unfold conv at h
  split at h
  · rename_i k0 k hs hd
    split at h
    · cases h; cases hv
      exact ⟨_, by simp [Is, Go.convert, Go.run_underlying hs, Go.run_underlying hd, Conv.intToInt], .int _ _⟩
    · cases h
  · rename_i hs hd
    split at h
    · cases h; cases hv
      exact ⟨_, by simp [Is, Go.convert, Go.run_underlying hs, Go.run_underlying hd], .str _⟩
    · cases h
  · rename_i e hs hd
    split at h
    · rename_i he
      split at h
      · rename_i sz es hel
        split at h
        · rename_i l hl
          cases h
          have hE := elems_val R hv hel
          have hr := bytes_string (P := P) hE hl
          obtain ⟨ad, cap, hc, _⟩ := hE.ex
          refine ⟨_, ?_, .str l⟩
          rw [hc] at hr ⊢
          show (Go.convert src dst _).run P w = _
          rw [run_convert_bytes_string w src dst e ad _ cap hs he hd]
          exact hr
        · cases h
      · cases h
    · cases h
  · rename_i e hs hd
    split at h
    · rename_i p
      split at h
      · rename_i ty cs hz
        split at h
        · rename_i hh
          obtain ⟨rfl, hsz, hne⟩ := hh
          cases h
          obtain ⟨q, z, cz, hq, hz', hcz, hb⟩ := hv
          cases hq
          rw [hz] at hz'; cases hz'
          refine ⟨c, ?_, _, _, _, rfl, hz, hcz, hb⟩
          rcases hb with ⟨_, _, _, _, _, _, he, _⟩ | ⟨ty', cs', b, he, rfl, _, rfl⟩
          · cases he
          · cases he
            obtain ⟨me, G, hT, _⟩ := R.rel.node hz hcz
            cases hT with
            | opt me ty cs b vs F G hw hl h1 hr hF hb hd' =>
              have h0 : 0 < P.cellsOf ty := by omega
              have hv0 : 0 < vs.size := by omega
              simp [Is, Go.convert, Go.run_underlying hs, Go.run_underlying hd, Conv.unsafePointer, Conv.seenAt, viewAt, shape_row hw, cellsIn, run_sizeOf h0, Nat.ne_of_gt h0, Nat.ne_of_gt hv0]
        · cases h
      · cases h
    · cases h
  · rename_i e hs hd
    split at h
    · rename_i p
      split at h
      · rename_i ty cs hz
        split at h
        · rename_i hh
          obtain ⟨rfl, hsz, hne⟩ := hh
          cases h
          obtain ⟨q, z, cz, hq, hz', hcz, hb⟩ := hv
          cases hq
          rw [hz] at hz'; cases hz'
          refine ⟨c, ?_, _, _, _, rfl, hz, hcz, hb⟩
          rcases hb with ⟨_, _, _, _, _, _, he, _⟩ | ⟨ty', cs', b, he, rfl, _, rfl⟩
          · cases he
          · cases he
            obtain ⟨me, G, hT, _⟩ := R.rel.node hz hcz
            cases hT with
            | opt me ty cs b vs F G hw hl h1 hr hF hb hd' =>
              have h0 : 0 < P.cellsOf ty := by omega
              have hv0 : 0 < vs.size := by omega
              have hdiv : vs.size / P.cellsOf ty = 1 := by rw [← hl, ← hsz]; exact Nat.div_self h0
              simp [Is, Go.convert, Go.run_underlying hs, Go.run_underlying hd, Conv.unsafePointer, Conv.seenAt, viewAt, shape_row hw, run_sizeOf h0, Nat.ne_of_gt h0, variablesAt, hdiv, lies_self P h0]
        · cases h
      · cases h
    · cases h
  · cases h
theorem fieldAddr_run (R : Sit P w X sl F a gv) {t : TypeId} {f : Nat} {s s' : S} {c : Value} (hv : Val P w X F sl (a.tmps.toList ++ gv) s c) (h : fieldAddr P t sl s f = some s') :
    ∃ c', Is P w (Instr.fieldAt t c f) c' ∧ Val P w X F sl (a.tmps.toList ++ gv) s' c' := by
  unfold fieldAddr at h
  split at h
  · rename_i fs hs
    split at h
    · rename_i fd hf
      split at h
      · cases h
      · rename_i hn
        have run : ∀ b o, Is P w (Instr.fieldAt t (.pointer (some ⟨b, o, none⟩)) f) (.pointer (some ⟨b, o + fd.offset, none⟩)) := by
          intro b o
          simp [Is, Instr.fieldAt, Go.run_underlying hs, hf, Instr.sureAddr, fieldPlace, run_sizeOf (Nat.pos_of_ne_zero hn), hn, add_at]
        split at h
        · rename_i p i j
          obtain ⟨q, z, cz, hq, hz, hcz, hb⟩ := hv
          cases hq
          split at h
          · rename_i ty es hz'
            rw [hz] at hz'; cases hz'
            split at h
            · rename_i hlt
              cases h
              rcases hb with ⟨ty', es', b, o, L, cap, he, rfl, hi, hj, rfl⟩ | ⟨_, _, _, he, _⟩
              · cases he
                exact ⟨_, run _ _, _, _, _, rfl, hz, hcz, .inl ⟨ty, es, b, o, L, cap, rfl, rfl, hi, hlt, by rw [Nat.add_assoc]⟩⟩
              · cases he
            · cases h
          · rename_i ty cs hz'
            rw [hz] at hz'; cases hz'
            split at h
            · rename_i hlt
              cases h
              rcases hb with ⟨_, _, _, _, _, _, he, _⟩ | ⟨ty', cs', b, he, rfl, rfl, rfl⟩
              · cases he
              · cases he
                exact ⟨_, run _ _, _, _, _, rfl, hz, hcz, .inr ⟨ty, cs, b, rfl, rfl, rfl, rfl⟩⟩
            · cases h
          · cases h
        · rename_i sn cs
          split at h
          · rename_i hle
            cases h
            cases hv with
            | ref sn cs b off hz h1 hd hc =>
              refine ⟨_, run _ _, .ref sn _ b _ hz (fun j v hj => h1 (fd.offset + j) v (by rw [List.getElem?_drop] at hj; exact hj)) (fun j v hj => ?_) fun j v c hj hcj => ?_⟩
              · rw [List.getElem?_drop] at hj
                obtain ⟨c, hc⟩ := hd _ v hj
                exact ⟨c, by rw [Nat.add_assoc]; exact hc⟩
              · rw [List.getElem?_drop] at hj
                rw [Nat.add_assoc] at hcj
                exact hc _ v c hj hcj
          · cases h
        · cases h
    · cases h
  · cases h
theorem mul_succ_le {i k n s : Nat} (h : i < n) : i * s + s ≤ n * s := by
  have : (i + 1) * s ≤ n * s := Nat.mul_le_mul_right _ h
  rwa [Nat.add_mul, Nat.one_mul] at this
theorem indexAddr_run (R : Sit P w X sl F a gv) {t : TypeId} {k : IntKind} {ix : Int} {s s' : S} {c : Value} (hv : Val P w X F sl (a.tmps.toList ++ gv) s c) (h : indexAddr P t sl s ix = some s') :
    ∃ c', Is P w (Instr.indexAt t c (.int k ix)) c' ∧ Val P w X F sl (a.tmps.toList ++ gv) s' c' := by
  unfold indexAddr at h
  split at h
  · rename_i e hs
    have run : ∀ (ad : Addr) (len cap : Nat), 0 ≤ ix → ix < (len : Int) → 0 < P.cellsOf e → Is P w (Instr.indexAt t (.slice (some ad) len cap) (.int k ix)) (.pointer (some (ad.add (ix.toNat * P.cellsOf e)))) := by
      intro ad len cap h0 h1 h2
      simp [Is, Instr.indexAt, asIntOf, Go.run_underlying hs, h0, h1, run_sizeOf h2]
    split at h
    · rename_i p off len ex
      obtain ⟨q, z, cz, hq, hz, hcz, hb⟩ := hv
      cases hq
      split at h
      · rename_i ty es hz'
        rw [hz] at hz'; cases hz'
        split at h
        · rename_i hh
          obtain ⟨rfl, h0, h1⟩ := hh
          cases h
          obtain ⟨ty', es', ad, L, cap, ad', cap', he, rfl, h2, rfl, h3, h4, h5, h6⟩ := hb
          cases he
          have hpos : cap' ≠ 0 := by omega
          rcases h6 with ⟨h6, _⟩ | ⟨b, o, rfl, rfl⟩
          · exact absurd h6 hpos
          · obtain ⟨me, G, hT, _⟩ := R.rel.node hz hcz
            have hp : 0 < P.cellsOf ty := by
              cases hT <;> first | assumption | (simp at h2; omega)
            refine ⟨_, run _ _ _ h0 h1 hp, _, _, _, rfl, hz, hcz, .inl ⟨ty, es, b, o, L, cap, rfl, rfl, by omega, hp, ?_⟩⟩
            rw [add_at, Nat.add_mul]; congr 3; omega
        · cases h
      · cases h
    · rename_i sn ex sz es
      split at h
      · rename_i hh
        obtain ⟨rfl, hp, h0⟩ := hh
        split at h
        · rename_i x hx
          cases h
          have hlt : ix.toNat < es.length := (List.getElem?_eq_some_iff.1 hx).1
          cases hv with
          | sl0 => simp at hx
          | sl sn ex sz es b off cap he hc hz hcl h1 hd hr =>
            refine ⟨_, run _ _ _ h0 (by omega) hp, ?_⟩
            rw [add_at]
            refine .ref sn _ b _ hz (fun j v hj => h1 _ j x v hx hj) (fun j v hj => hd _ j x v hx hj) fun j v c hj hcj => ?_
            have := hr _ j x v c hx hj hcj
            cases sn
            · exact this
            · exact up this
        · cases h
      · cases h
    · rename_i p j sz len
      split at h
      · rename_i hh
        obtain ⟨rfl, hp, h0, h1⟩ := hh
        cases h
        obtain ⟨q, z, cz, hq, hz, hcz, hb⟩ := hv
        cases hq
        obtain ⟨ty, cs, b, ad, cap, rfl, rfl, rfl, h2, h3, h4⟩ := hb
        rcases h4 with h4 | rfl
        · omega
        · refine ⟨_, run _ _ _ h0 h1 hp, _, _, _, rfl, hz, hcz, .inr ⟨ty, cs, b, rfl, rfl, rfl, ?_⟩⟩
          rw [add_at]
      · cases h
    · cases h
  · rename_i n e hs
    split at h
    · rename_i hh
      obtain ⟨h0, h1, hp⟩ := hh
      have run : ∀ (ad : Addr), Is P w (Instr.indexAt t (.pointer (some ad)) (.int k ix)) (.pointer (some (ad.add (ix.toNat * P.cellsOf e)))) := by
        intro ad
        simp [Is, Instr.indexAt, asIntOf, Go.run_underlying hs, Instr.sureAddr, h0, h1, run_sizeOf hp]
      split at h
      · rename_i p i j
        obtain ⟨q, z, cz, hq, hz, hcz, hb⟩ := hv
        cases hq
        split at h
        · rename_i ty es hz'
          rw [hz] at hz'; cases hz'
          split at h
          · rename_i hlt
            cases h
            rcases hb with ⟨ty', es', b, o, L, cap, he, rfl, hi, hj, rfl⟩ | ⟨_, _, _, he, _⟩
            · cases he
              exact ⟨_, run _, _, _, _, rfl, hz, hcz, .inl ⟨ty, es, b, o, L, cap, rfl, rfl, hi, hlt, by rw [add_at, Nat.add_assoc]⟩⟩
            · cases he
          · cases h
        · rename_i ty cs hz'
          rw [hz] at hz'; cases hz'
          split at h
          · rename_i hlt
            cases h
            rcases hb with ⟨_, _, _, _, _, _, he, _⟩ | ⟨ty', cs', b, he, rfl, rfl, rfl⟩
            · cases he
            · cases he
              exact ⟨_, run _, _, _, _, rfl, hz, hcz, .inr ⟨ty, cs, b, rfl, rfl, rfl, by rw [add_at]⟩⟩
          · cases h
        · cases h
      · rename_i sn cs
        split at h
        · rename_i hle
          cases h
          cases hv with
          | ref sn cs b off hz h1 hd hc =>
            refine ⟨_, run _, ?_⟩
            rw [add_at]
            refine .ref sn _ b _ hz (fun j v hj => h1 _ v (by rw [List.getElem?_drop] at hj; exact hj)) (fun j v hj => ?_) fun j v c hj hcj => ?_
            · rw [List.getElem?_drop] at hj
              obtain ⟨c, hc⟩ := hd _ v hj
              exact ⟨c, by rw [Nat.add_assoc]; exact hc⟩
            · rw [List.getElem?_drop] at hj
              rw [Nat.add_assoc] at hcj
              exact hc _ v c hj hcj
        · cases h
      · cases h
    · cases h
  · cases h
theorem part_run {t : TypeId} {cs : List V} {vs : List Value} {off : Nat} {v : V} (hv : PRep w (zs w X F) (zx w F) (.agg cs) (.agg vs.toArray)) (h : partV P t cs off = some v) :
    ∃ c', Is P w (part t vs.toArray off) c' ∧ PRep w (zs w X F) (zx w F) v c' := by
  generalize hc : Value.agg vs.toArray = c at hv
  cases hv with
  | agg cs vs' hl h1 hr =>
    have : vs = vs' := by simpa using hc
    subst this
    unfold partV at h
    split at h
    · rename_i hag
      split at h
      · rename_i hn
        cases h
        refine ⟨.agg ((vs.drop off).take (P.cellsOf t)).toArray, ?_, ?_⟩
        · simp [Is, part, run_isAgg hag, run_sizeOf hn.2]
        · refine .agg _ _ (by simp [hl]) (fun i v hi => h1 _ v (drop_take_get hi).1) fun i v c hi hci => hr _ v c (drop_take_get hi).1 (drop_take_get hci).1
      · cases h
    · rename_i hag
      have hlt : off < vs.length := by rw [← hl]; exact (List.getElem?_eq_some_iff.1 h).1
      refine ⟨vs[off], ?_, hr off v _ h (List.getElem?_eq_getElem hlt)⟩
      simp [Is, part, run_isAgg hag, hlt]
    · cases h
theorem index_run {t : TypeId} {k : IntKind} {ix : Int} {x v : V} {c : Value} (hv : PRep w (zs w X F) (zx w F) x c) (h : indexOp P t x ix = some v) :
    ∃ c', Is P w (Instr.index t c (.int k ix)) c' ∧ PRep w (zs w X F) (zx w F) v c' := by
  unfold indexOp at h
  split at h
  · rename_i s hs
    split at h
    · rename_i h0
      split at h
      · rename_i b hb
        cases h; cases hv
        have hlt : ix.toNat < s.length := (List.getElem?_eq_some_iff.1 hb).1
        refine ⟨.int .u8 b.toNat, ?_, .int _ _⟩
        have hb' : (⟨s.toArray⟩ : ByteArray)[ix.toNat]? = some b := by
          have : (⟨s.toArray⟩ : ByteArray).size = s.length := by simp [ByteArray.size]
          rw [getElem?_pos (⟨s.toArray⟩ : ByteArray) ix.toNat (by omega)]
          have : s[ix.toNat] = b := by rw [List.getElem?_eq_getElem hlt] at hb; exact Option.some.inj hb
          rw [← this]; rfl
        simp [Is, Instr.index, asIntOf, Go.run_underlying hs, h0, hb']
      · cases h
    · cases h
  · rename_i n e cs hs
    split at h
    · rename_i hh
      generalize hx : V.agg cs = x at hv
      cases hv <;> cases hx
      rename_i vs hl h1 hr
      obtain ⟨c', h2, h3⟩ := part_run (P := P) (X := X) (F := F) (.agg cs vs hl h1 hr) h
      refine ⟨c', ?_, h3⟩
      have hp : 0 < P.cellsOf e ∨ ¬ 0 < P.cellsOf e := Nat.lt_or_ge _ _ |>.imp id (fun h => by omega)
      have hsz : (sizeOf e).run P w = .ok (P.cellsOf e) w := by
        unfold partV at h
        cases ha : aggT P e with
        | none => simp [ha] at h
        | some b =>
          obtain ⟨d, hd, _⟩ := aggT_desc ha
          unfold Program.underlying at hd
          cases hi : P.info? e with
          | none => simp [hi] at hd
          | some i => simp [sizeOf, typeInfo, Program.cellsOf, hi]
      simp only [Is] at h2
      simp [Is, Instr.index, asIntOf, Go.run_underlying hs, hh.1, hh.2, hsz, h2]
    · cases h
  · cases h
theorem field_run {t : TypeId} {f : Nat} {x v : V} {c : Value} (hv : PRep w (zs w X F) (zx w F) x c) (h : fieldOp P t x f = some v) :
    ∃ c', Is P w (Instr.field t c f) c' ∧ PRep w (zs w X F) (zx w F) v c' := by
  unfold fieldOp at h
  split at h
  · rename_i fs cs hs
    split at h
    · rename_i fd hf
      generalize hx : V.agg cs = x at hv
      cases hv <;> cases hx
      rename_i vs hl h1 hr
      obtain ⟨c', h2, h3⟩ := part_run (P := P) (X := X) (F := F) (.agg cs vs hl h1 hr) h
      simp only [Is] at h2
      exact ⟨c', by simp [Is, Instr.field, Go.run_underlying hs, hf, asAgg, h2], h3⟩
    · cases h
  · cases h
end
end Go.Proofs.Ytffofdfikmpanaa.A
namespace Go.Proofs.Ytffofdfikmpanaa.A
set_option linter.unusedVariables false
set_option linter.unusedSimpArgs false
section
variable {P : Program} {w : World} {X : Nat → Prop} {sl : List S} {F : Nat → Nat → Prop} {a : Act} {gv : List Value}
def OkO (a : Act) (x : Option Operand) : Prop := ∀ y, x = some y → OkT a y
def Bnd (d l : Nat) : Option Value → Prop
  | none => l = d
  | some c => ∃ k n, c = .int k n ∧ 0 ≤ n ∧ n.toNat = l
theorem bnd_val (R : Sit P w X sl F a gv) {d l : Nat} {x : Option Operand} (hx : OkO a x) (h : bnd sl d x = some l) : Bnd d l (x.map a.eval) := by
  cases x with
  | none => simp [bnd] at h; exact h.symm
  | some y =>
    simp only [bnd] at h
    split at h
    · rename_i k n hn
      split at h
      · cases h
        have := pv_val R (hx y rfl) hn
        generalize hc : a.eval y = c at this
        cases this
        exact ⟨k, n, hc, by assumption, rfl⟩
      · cases h
    · cases h
theorem run_sliceBound {k : IntKind} {n : Int} {y : Nat} {code : BoundsCode} (h0 : 0 ≤ n) (h1 : n.toNat ≤ y) : (Instr.sliceBound (.int k n) y code).run P w = .ok n.toNat w := by
  have : n ≤ (y : Int) := by omega
  simp [Instr.sliceBound, asIntOf, h0, this]
theorem run_sliceBounds {is : Bool} {len cap l h m : Nat} {lo hi mx : Option Value} (hl : Bnd 0 l lo) (hh : Bnd len h hi) (hm : Bnd cap m mx) (hmh : mx.isSome → hi.isSome) (h1 : l ≤ h) (h2 : h ≤ m) (h3 : m ≤ cap) :
    (Instr.sliceBounds is len cap lo hi mx).run P w = .ok (l, h, m) w := by
  unfold Instr.sliceBounds
  cases mx with
  | none =>
    have hm' : m = cap := hm
    subst hm'
    cases hi with
    | none =>
      have hh' : h = len := hh
      subst hh'
      cases lo with
      | none => have : l = 0 := hl; subst this; simp
      | some c => obtain ⟨k, n, rfl, h0, rfl⟩ := hl; simp [run_sliceBound h0 h1]
    | some c' =>
      obtain ⟨k', n', rfl, h0', rfl⟩ := hh
      cases lo with
      | none => have : l = 0 := hl; subst this; simp [run_sliceBound h0' h2]
      | some c => obtain ⟨k, n, rfl, h0, rfl⟩ := hl; simp [run_sliceBound h0 h1, run_sliceBound h0' h2]
  | some c'' =>
    obtain ⟨k'', n'', rfl, h0'', rfl⟩ := hm
    cases hi with
    | none => simp at hmh
    | some c' =>
      obtain ⟨k', n', rfl, h0', rfl⟩ := hh
      cases lo with
      | none => have : l = 0 := hl; subst this; simp [run_sliceBound h0' h2, run_sliceBound h0'' h3]
      | some c => obtain ⟨k, n, rfl, h0, rfl⟩ := hl; simp [run_sliceBound h0 h1, run_sliceBound h0' h2, run_sliceBound h0'' h3]
theorem run_slice_slice {t e : TypeId} (hs : P.underlying t = some (.slice e)) (hp : 0 < P.cellsOf e) {ad : Option Addr} {len cap l h m : Nat} {lo hi mx : Option Value}
    (hl : Bnd 0 l lo) (hh : Bnd len h hi) (hm : Bnd cap m mx) (hmh : mx.isSome → hi.isSome) (h1 : l ≤ h) (h2 : h ≤ m) (h3 : m ≤ cap) :
    Is P w (Instr.sliceAt t (.slice ad len cap) lo hi mx) (.slice (if m = l then ad else ad.map (·.add (l * P.cellsOf e))) (h - l) (m - l)) := by
  simp [Is, Instr.sliceAt, Go.run_underlying hs, Instr.slice, run_sliceBounds hl hh hm hmh h1 h2 h3, run_sizeOf hp]
theorem slice_run (R : Sit P w X sl F a gv) {t : TypeId} {lo hi mx : Option Operand} {s s' : S} {c : Value} (hlo : OkO a lo) (hhi : OkO a hi) (hmx : OkO a mx)
    (hv : Val P w X F sl (a.tmps.toList ++ gv) s c) (h : sliceOp P t sl s lo hi mx = some s') (hmh : mx.isSome → hi.isSome) :
    ∃ c', Is P w (Instr.sliceAt t c (lo.map a.eval) (hi.map a.eval) (mx.map a.eval)) c' ∧ Val P w X F sl (a.tmps.toList ++ gv) s' c' := by
  have hmh' : (mx.map a.eval).isSome → (hi.map a.eval).isSome := by simpa using hmh
  -- the third bound, by the list's length or its room
  have third : ∀ {len cap m : Nat}, Bnd len m (mx.map a.eval) → m ≤ len → len ≤ cap → ∃ mc, Bnd cap mc (mx.map a.eval) ∧ mc ≤ cap ∧ m ≤ mc ∧ (mx.isSome = true → mc = m) ∧ (mx.isSome = false → mc = cap ∧ m = len) := by
    intro len cap m hm h1 h2
    cases hmx' : mx with
    | none => rw [hmx'] at hm; exact ⟨cap, rfl, Nat.le_refl _, by have : m = len := hm; omega, by simp, fun _ => ⟨rfl, hm⟩⟩
    | some y => rw [hmx'] at hm; exact ⟨m, hm, by omega, Nat.le_refl _, fun _ => rfl, by simp⟩
  unfold sliceOp at h
  split at h
  · rename_i hs
    split at h
    · rename_i x
      split at h
      · cases h
      · rename_i hn
        have hmn : mx = none := by cases mx <;> simp_all
        subst hmn
        split at h
        · rename_i l h0 hl hh
          split at h
          · rename_i hle
            cases h; cases hv
            have hsz : (⟨x.toArray⟩ : ByteArray).size = x.length := by simp [ByteArray.size]
            have hb := run_sliceBounds (P := P) (w := w) (is := false) (cap := x.length) (m := x.length) (bnd_val R hlo hl) (bnd_val R hhi hh) (mx := none) rfl (by simp) hle.1 hle.2 (Nat.le_refl _)
            refine ⟨.string ⟨((x.drop l).take (h0 - l)).toArray⟩, ?_, .str _⟩
            have he : (⟨x.toArray⟩ : ByteArray).extract l h0 = ⟨((x.drop l).take (h0 - l)).toArray⟩ := by
              apply ByteArray.ext
              simp [List.extract_eq_take_drop]
            simp only [Is, Instr.sliceAt, Sem.run_bind, Go.run_underlying hs, Result.andThen_ok, Instr.slice, Option.map_none, Option.isSome_none, Bool.false_eq_true, if_false, hsz, hb, he]
            rfl
          · cases h
        · cases h
    · cases h
  · rename_i e hs
    split at h
    · rename_i sn ex sz es
      split at h
      · rename_i l h0 m hl hh hm
        split at h
        · rename_i hle
          obtain ⟨h1, h2, h3, h4, hp⟩ := hle
          cases h
          have build : ∀ {ad : Option Addr} {cap : Nat}, es.length ≤ cap → (ex = true → cap = es.length) →
              (∀ m', (es ≠ [] → ∃ b off, ad = some ⟨b, off, none⟩ ∧ ((l < h0) → PRep w (zs w X F) (zx w F) (.sl sn ((ex || mx.isSome) && h0 == m) sz ((es.drop l).take (h0 - l))) (.slice (some ⟨b, off + l * sz, none⟩) (h0 - l) m') ∨ ((ex || mx.isSome) && h0 == m) = true ∧ m' ≠ h0 - l ∨ m' < h0 - l))) →
              ∃ c', Is P w (Instr.sliceAt t (.slice ad es.length cap) (lo.map a.eval) (hi.map a.eval) (mx.map a.eval)) c' ∧ Val P w X F sl (a.tmps.toList ++ gv) (.v (.sl sn ((ex || mx.isSome) && h0 == m) sz ((es.drop l).take (h0 - l)))) c' := by
            intro ad cap hcap hex hrep
            obtain ⟨mc, k1, k2, k3, k4, k5⟩ := third (bnd_val R hmx hm) h3 hcap
            refine ⟨_, run_slice_slice hs hp (bnd_val R hlo hl) (bnd_val R hhi hh) k1 hmh' h1 (by omega) k2, ?_⟩
            have hexact : ((ex || mx.isSome) && h0 == m) = true → mc - l = h0 - l := by
              intro hh
              simp only [Bool.and_eq_true, Bool.or_eq_true, beq_iff_eq] at hh
              obtain ⟨h5, rfl⟩ := hh
              cases hms : mx.isSome with
              | true => rw [k4 hms]
              | false =>
                rw [hms] at h5
                have := hex (by simpa using h5)
                obtain ⟨e1, e2⟩ := k5 hms
                omega
            by_cases hlt : l < h0
            · have hne : es ≠ [] := by intro he; subst he; simp at h3; omega
              obtain ⟨b, off, rfl, hr⟩ := hrep (mc - l) hne
              rcases hr hlt with hr | ⟨hr1, hr2⟩ | hr
              · have hml : ¬ mc = l := by omega
                have : sz = P.cellsOf e := h4.resolve_right hne
                subst this
                simp only [if_neg hml, Option.map_some, add_at]
                exact hr
              · exact absurd (hexact hr1) hr2
              · omega
            · have : h0 - l = 0 := by omega
              rw [this]
              simp only [List.take_zero]
              exact .sl0 _ _ _ _ _ fun hh => by have := hexact hh; omega
          cases hv with
          | sl0 sn ex sz ad cap he => exact build (by simp) (by simpa using he) (fun m' hne => absurd rfl hne)
          | sl sn ex sz es b off cap he hc hz hcl h1' hd hr =>
            refine build hc he fun m' _ => ⟨b, off, rfl, fun hlt => ?_⟩
            by_cases hm1 : m' < h0 - l
            · exact .inr (.inr hm1)
            · by_cases hm2 : ((ex || mx.isSome) && h0 == m) = true ∧ m' ≠ h0 - l
              · exact .inr (.inl hm2)
              · refine .inl ?_
                have hlen : ((es.drop l).take (h0 - l)).length = h0 - l := by simp; omega
                have := PRep.sl (w := w) (Zs := zs w X F) (Zx := zx w F) sn ((ex || mx.isSome) && h0 == m) sz ((es.drop l).take (h0 - l)) b (off + l * sz) m' (fun hh => by
                    rw [hlen]; exact Classical.byContradiction fun hn => hm2 ⟨hh, hn⟩) (by omega) hz (fun i e hi => hcl _ e (drop_take_get hi).1) (fun i j e v hi hj => h1' _ j e v (drop_take_get hi).1 hj)
                  (fun i j e v hi hj => by
                    have := hd _ j e v (drop_take_get hi).1 hj
                    rw [Nat.add_mul] at this
                    simpa [Nat.add_assoc] using this)
                  (fun i j e v c hi hj hc => hr (l + i) j e v c (drop_take_get hi).1 hj (by rw [Nat.add_mul]; rw [← hc]; congr 2; omega))
                rwa [hlen] at this
        · cases h
      · cases h
    · rename_i p off len ex
      split at h
      · rename_i ty es hz
        split at h
        · rename_i l h0 m hl hh hm
          split at h
          · rename_i hle
            obtain ⟨h1, h2, h3, h4, hp⟩ := hle
            cases h
            obtain ⟨q, z, cz, hq, hz', hcz, hb⟩ := hv
            cases hq
            rw [hz] at hz'; cases hz'
            obtain ⟨ty', es', ad, L, cap, ad', cap', he, rfl, h5, rfl, h6, h7, h8, h9⟩ := hb
            cases he
            obtain ⟨mc, k1, k2, k3, k4, k5⟩ := third (bnd_val R hmx hm) h3 h6
            refine ⟨_, run_slice_slice hs hp (bnd_val R hlo hl) (bnd_val R hhi hh) k1 hmh' h1 (by omega) k2, _, _, _, rfl, hz, hcz, ty, es, ad, L, cap, _, mc - l, rfl, rfl, by omega, rfl, by omega, by omega, ?_, ?_⟩
            · intro hh
              simp only [Bool.and_eq_true, Bool.or_eq_true, beq_iff_eq] at hh
              obtain ⟨h10, rfl⟩ := hh
              cases hms : mx.isSome with
              | true => rw [k4 hms]
              | false =>
                rw [hms] at h10
                have := h8 (by simpa using h10)
                obtain ⟨e1, e2⟩ := k5 hms
                omega
            · by_cases hml : mc = l
              · refine .inl ⟨by omega, fun hn => ?_⟩
                rw [if_pos hml]
                rcases h9 with ⟨_, h9⟩ | ⟨b, o, rfl, rfl⟩
                · exact h9 hn
                · cases hn
              · rcases h9 with ⟨h9, _⟩ | ⟨b, o, rfl, rfl⟩
                · omega
                · refine .inr ⟨b, o, rfl, ?_⟩
                  simp only [if_neg hml, Option.map_some, add_at]
                  rcases h4 with h4 | h4
                  · subst h4; rw [Nat.add_mul, Nat.add_assoc]
                  · subst h4
                    simp at h5
                    have : l = 0 := by omega
                    subst this
                    simp [h5.1]
          · cases h
        · cases h
      · cases h
    · rename_i p j sz len
      split at h
      · rename_i l h0 hl hh
        split at h
        · rename_i hle
          obtain ⟨hmn, h1, h2, rfl, hp⟩ := hle
          cases h
          obtain ⟨q, z, cz, hq, hz, hcz, hb⟩ := hv
          cases hq
          obtain ⟨ty, cs, b, ad, cap, rfl, rfl, rfl, h3, h4, h5⟩ := hb
          have hmn' : mx = none := by cases mx <;> simp_all
          subst hmn'
          have hmul : l * P.cellsOf e + (cap - l) * P.cellsOf e ≤ cap * P.cellsOf e := by rw [← Nat.add_mul]; exact Nat.mul_le_mul_right _ (by omega)
          refine ⟨_, run_slice_slice hs hp (bnd_val R hlo hl) (bnd_val R hhi hh) (mx := none) (m := cap) rfl (by simp) h1 (by omega) (Nat.le_refl _), _, _, _, rfl, hz, hcz, ty, cs, b, _, cap - l, rfl, rfl, rfl, by omega, by omega, ?_⟩
          by_cases hml : cap = l
          · exact .inl (by omega)
          · rcases h5 with h5 | rfl
            · omega
            · refine .inr ?_
              simp only [if_neg hml, Option.map_some, add_at]
        · cases h
      · cases h
    · cases h
  · rename_i n e hs
    have run : ∀ {ad : Addr} {l h0 : Nat}, Bnd 0 l (lo.map a.eval) → Bnd n h0 (hi.map a.eval) → mx = none → l ≤ h0 → h0 ≤ n → 0 < P.cellsOf e →
        Is P w (Instr.sliceAt t (.pointer (some ad)) (lo.map a.eval) (hi.map a.eval) (mx.map a.eval)) (.slice (some (if n = l then ad else ad.add (l * P.cellsOf e))) (h0 - l) (n - l)) := by
      intro ad l h0 hl hh hm h1 h2 hp
      subst hm
      simp [Is, Instr.sliceAt, Go.run_underlying hs, Instr.sureAddr, run_sliceBounds hl hh (mx := none) (cap := n) (m := n) rfl (by simp) h1 h2 (Nat.le_refl _), run_sizeOf hp]
    split at h
    · rename_i p i j
      split at h
      · rename_i ty cs hz
        split at h
        · rename_i l h0 hl hh
          split at h
          · rename_i hle
            obtain ⟨hmn, h1, h2, h3, hp⟩ := hle
            cases h
            have hmn' : mx = none := by cases mx <;> simp_all
            obtain ⟨q, z, cz, hq, hz', hcz, hb⟩ := hv
            cases hq
            rw [hz] at hz'; cases hz'
            rcases hb with ⟨_, _, _, _, _, _, he, _⟩ | ⟨ty', cs', b, he, rfl, rfl, rfl⟩
            · cases he
            · cases he
              have hmul : l * P.cellsOf e + (n - l) * P.cellsOf e ≤ n * P.cellsOf e := by rw [← Nat.add_mul]; exact Nat.mul_le_mul_right _ (by omega)
              refine ⟨_, run (bnd_val R hlo hl) (bnd_val R hhi hh) hmn' h1 h2 hp, _, _, _, rfl, hz, hcz, ty, cs, b, _, n - l, rfl, rfl, rfl, by omega, by omega, ?_⟩
              by_cases hml : n = l
              · exact .inl (by omega)
              · exact .inr (by simp only [if_neg hml, add_at])
          · cases h
        · cases h
      · cases h
    · rename_i sn cs
      split at h
      · rename_i l h0 hl hh
        split at h
        · rename_i hle
          obtain ⟨hmn, h1, h2, h3, hp, hsn⟩ := hle
          subst hsn
          cases h
          have hmn' : mx = none := by cases mx <;> simp_all
          cases hv with
          | ref sn cs b off hz h1' hd hr =>
            refine ⟨_, run (bnd_val R hlo hl) (bnd_val R hhi hh) hmn' h1 h2 (by omega), ?_⟩
            by_cases hlt : l < h0
            · have hml : ¬ n = l := by omega
              simp only [if_neg hml, add_at, hp, Nat.mul_one]
              have hlen : ((cs.drop l).take (h0 - l)).length = h0 - l := by simp; omega
              have hcells : ∀ (i : Nat) (v : V), ((cs.drop l).take (h0 - l))[i]? = some v → v.cells = [v] ∧ v.one = true ∧ cs[l + i]? = some v := fun i v hi => by
                have h4 := (drop_take_get hi).1
                have h5 := h1' _ v h4
                exact ⟨by cases v <;> simp_all [V.one, V.cells], h5, h4⟩
              have := PRep.sl (w := w) (Zs := zs w X F) (Zx := zx w F) false false 1 ((cs.drop l).take (h0 - l)) b (off + l) (n - l) (by simp) (by omega) hz
                (fun i e hi => by rw [(hcells i e hi).1]; rfl) (fun i j e v hi hj => by
                  rw [(hcells i e hi).1] at hj
                  cases j <;> simp at hj
                  subst hj; exact (hcells i _ hi).2.1)
                (fun i j e v hi hj => by
                  rw [(hcells i e hi).1] at hj
                  cases j <;> simp at hj
                  subst hj
                  obtain ⟨c, hc⟩ := hd _ _ (hcells i _ hi).2.2
                  exact ⟨c, by rw [← hc]; congr 2; omega⟩)
                (fun i j e v c hi hj hc => by
                  rw [(hcells i e hi).1] at hj
                  cases j <;> simp at hj
                  subst hj
                  exact hr _ _ c (hcells i _ hi).2.2 (by rw [← hc]; congr 2; omega))
              rwa [hlen] at this
            · have : h0 - l = 0 := by omega
              rw [this]
              simp only [List.take_zero]
              exact .sl0 _ _ _ _ _ (by simp)
        · cases h
      · cases h
    · cases h
  · cases h
end
end Go.Proofs.Ytffofdfikmpanaa.A
namespace Go.Proofs.Ytffofdfikmpanaa.A
set_option linter.unusedVariables false
set_option linter.unusedSimpArgs false
section
variable {P : Program} {w : World} {X : Nat → Prop} {sl : List S} {F : Nat → Nat → Prop} {a : Act} {gv : List Value}
theorem len_run (R : Sit P w X sl F a gv) {t ty : TypeId} {s : S} {c : Value} {n : Nat} (hv : Val P w X F sl (a.tmps.toList ++ gv) s c) (h : lenS P t sl s = some n) :
    Is P w (Builtin.len_ #[t] ty #[c]) (.int .i64 n) := by
  unfold lenS at h
  split at h
  · rename_i hs
    split at h
    · rename_i x
      cases h; cases hv
      have hsz : (⟨x.toArray⟩ : ByteArray).size = x.length := by simp [ByteArray.size]
      simp [Is, Builtin.len_, Go.run_underlying hs, goInt, hsz]
    · cases h
  · rename_i hs
    cases h
    simp [Is, Builtin.len_, Go.run_underlying hs, goInt]
  · rename_i ar hs
    split at h
    · rename_i hs2
      cases h
      simp [Is, Builtin.len_, Go.run_underlying hs, Go.run_underlying hs2, goInt]
    · cases h
  · rename_i e hs
    have run : ∀ ad m cap, Is P w (Builtin.len_ #[t] ty #[.slice ad m cap]) (.int .i64 m) := fun ad m cap => by simp [Is, Builtin.len_, Go.run_underlying hs, goInt]
    split at h
    · cases h
      obtain ⟨q, z, cz, hq, hz, hcz, ty', es, ad, L, cap, ad', cap', rfl, rfl, h1, rfl, _⟩ := hv
      exact run _ _ _
    · cases h
      obtain ⟨q, z, cz, hq, hz, hcz, ty', cs, b, ad, cap, rfl, rfl, rfl, _⟩ := hv
      exact run _ _ _
    · cases h
      cases hv with
      | sl0 => exact run _ _ _
      | sl => exact run _ _ _
    · cases h
      cases hv with
      | lenO n a cap => exact run _ _ _
    · cases h
      have : c = .slice none 0 0 := hv rfl
      subst this
      exact run _ _ _
    · cases h
  · cases h
theorem ints_val (R : Sit P w X sl F a gv) : ∀ {xs : List Operand} {k : IntKind} {l : List Int}, (∀ x ∈ xs, OkT a x) → ints sl xs = some (k, l) → xs.map a.eval = l.map (Value.int k)
  | [], k, l, _, h => by simp [ints] at h
  | [x], k, l, hx, h => by
    simp only [ints] at h
    split at h
    · rename_i k' n hn
      cases h
      have := pv_val R (hx x (by simp)) hn
      generalize hc : a.eval x = c at this
      cases this
      simp [hc]
    · cases h
  | x :: y :: r, k, l, hx, h => by
    simp only [ints] at h
    split at h
    · rename_i k1 n k2 l' hn hl
      split at h
      · rename_i hk; subst hk
        cases h
        have := pv_val R (hx x (by simp)) hn
        generalize hc : a.eval x = c at this
        cases this
        have ih := ints_val R (fun z hz => hx z (by simp [hz])) hl
        simp only [List.map_cons, hc] at ih ⊢
        rw [ih]
      · cases h
    · cases h
theorem min_run {k : IntKind} {ts : Array TypeId} {t : TypeId} {l : List Int} {n : Int} (h : minL l = some n) : Is P w (Builtin.min_ ts t (l.map (Value.int k)).toArray) (.int k n) := by
  cases l with
  | nil => simp [minL] at h
  | cons x r =>
    simp only [minL, Option.some.injEq] at h
    subst h
    simp only [Is, Builtin.min_, List.map_cons]
    show Sem.run P (List.foldlM Builtin.min2 (Value.int k x) (r.map (Value.int k))) w = _
    induction r generalizing x with
    | nil => simp
    | cons y r ih =>
      simp only [List.map_cons, List.foldlM_cons, Sem.run_bind, List.foldl_cons]
      have : (Builtin.min2 (Value.int k x) (Value.int k y)).run P w = .ok (.int k (if y < x then y else x)) w := by simp [Builtin.min2]
      rw [this]
      exact ih _
theorem max_run {k : IntKind} {ts : Array TypeId} {t : TypeId} {l : List Int} {n : Int} (h : maxL l = some n) : Is P w (Builtin.max_ ts t (l.map (Value.int k)).toArray) (.int k n) := by
  cases l with
  | nil => simp [maxL] at h
  | cons x r =>
    simp only [maxL, Option.some.injEq] at h
    subst h
    simp only [Is, Builtin.max_, List.map_cons]
    show Sem.run P (List.foldlM Builtin.max2 (Value.int k x) (r.map (Value.int k))) w = _
    induction r generalizing x with
    | nil => simp
    | cons y r ih =>
      simp only [List.map_cons, List.foldlM_cons, Sem.run_bind, List.foldl_cons]
      have : (Builtin.max2 (Value.int k x) (Value.int k y)).run P w = .ok (.int k (if y > x then y else x)) w := by simp [Builtin.max2]
      rw [this]
      exact ih _
theorem flat_cells {sz : Nat} : ∀ {es : List V} {j : Nat} {v : V}, (∀ (i : Nat) (e : V), es[i]? = some e → e.cells.length = sz) → (es.flatMap V.cells)[j]? = some v → ∃ i r e, es[i]? = some e ∧ e.cells[r]? = some v ∧ j = i * sz + r
  | [], j, v, _, h => by simp at h
  | e :: es, j, v, hs, h => by
    rw [List.flatMap_cons] at h
    have hl := hs 0 e (by simp)
    by_cases hj : j < sz
    · rw [List.getElem?_append_left (by omega)] at h
      exact ⟨0, j, e, by simp, h, by simp⟩
    · rw [List.getElem?_append_right (by omega)] at h
      obtain ⟨i, r, e', h1, h2, h3⟩ := flat_cells (fun i e he => hs (i + 1) e (by simpa using he)) h
      refine ⟨i + 1, r, e', by simpa using h1, h2, ?_⟩
      rw [Nat.add_mul, Nat.one_mul]
      omega
theorem arrayAt_run {t : TypeId} {s s' : S} {c : Value} (hv : Val P w X F sl (a.tmps.toList ++ gv) s c) (h : arrayAt P t s = some s') :
    ∃ c', Is P w (Instr.arrayAt t c) c' ∧ Val P w X F sl (a.tmps.toList ++ gv) s' c' := by
  unfold arrayAt at h
  split at h
  · rename_i n e sn ex sz es ht
    split at h
    · rename_i hh
      obtain ⟨rfl, hp, hn, hle⟩ := hh
      cases h
      cases hv with
      | sl0 => simp at hle; omega
      | sl _ _ _ _ b off cap he hc hz hcl h1 hd hr =>
        have tk : ∀ {i : Nat} {e' : V}, (es.take n)[i]? = some e' → es[i]? = some e' := fun {i e'} h => by
          rw [List.getElem?_take] at h
          split at h
          · exact h
          · cases h
        have hcl' : ∀ (i : Nat) (e' : V), (es.take n)[i]? = some e' → e'.cells.length = P.cellsOf e := fun i e' h => hcl i e' (tk h)
        refine ⟨.pointer (some ⟨b, off, none⟩), ?_, ?_⟩
        · simp only [Is, Instr.arrayAt, Sem.run_bind, Go.run_underlying ht, Result.andThen_ok, if_neg (by omega : ¬ es.length < n), Sem.run_pure]
        · refine .ref sn _ b off hz (fun j v hj => ?_) (fun j v hj => ?_) fun j v c hj hcj => ?_
          · obtain ⟨i, r, e', k1, k2, rfl⟩ := flat_cells hcl' hj
            exact h1 i r e' v (tk k1) k2
          · obtain ⟨i, r, e', k1, k2, rfl⟩ := flat_cells hcl' hj
            obtain ⟨c, hc⟩ := hd i r e' v (tk k1) k2
            exact ⟨c, by rw [← Nat.add_assoc]; exact hc⟩
          · obtain ⟨i, r, e', k1, k2, rfl⟩ := flat_cells hcl' hj
            rw [← Nat.add_assoc] at hcj
            have := hr i r e' v c (tk k1) k2 hcj
            cases sn
            · exact this
            · exact up this
    · cases h
  · rename_i n e p j sz len ht
    split at h
    · rename_i hh
      obtain ⟨rfl, hp, hn, hle⟩ := hh
      cases h
      obtain ⟨p', z, cz, hpl, hz, hcz, ty, cs, b, ad, cap, rfl, rfl, rfl, h2, h3, h4⟩ := hv
      cases hpl
      have h5 : ad = some ⟨b, j, none⟩ := h4.resolve_left (by omega)
      subst h5
      refine ⟨.pointer (some ⟨b, j, none⟩), ?_, p, _, _, rfl, hz, hcz, .inr ⟨ty, cs, b, rfl, rfl, rfl, rfl⟩⟩
      simp only [Is, Instr.arrayAt, Sem.run_bind, Go.run_underlying ht, Result.andThen_ok, if_neg (by omega : ¬ len < n), Sem.run_pure]
    · cases h
  · cases h
theorem is_value {m : Sem Value} {c : Value} (h : Is P w m c) : ((do pure (.value (← m)) : Sem Next)).run P w = .ok (.value c) w := by
  have h' : m.run P w = .ok c w := h
  simp [h']
theorem look_run (R : Sit P w X sl F a gv) {o : Oper} (hops : ∀ x ∈ o.op.operands.toList, OkT a x) {s : S} (h : lookA P sl o.op = some s) :
    ∃ c, (execOp a.eval o).run P w = .ok (.value c) w ∧ Val P w X F sl (a.tmps.toList ++ gv) s c := by
  obtain ⟨dst, op, type, pos, after, guard⟩ := o
  simp only at h hops
  unfold execOp
  simp only
  cases op with
  | move x =>
    have hx : OkT a x := hops x (by simp [Op.operands])
    simp only [lookA] at h
    refine ⟨a.eval x, rfl, ?_⟩
    split at h
    · rename_i v hv; cases h; exact rd_val R hx hv
    · cases h
    · rename_i h1 h2; exact rd_val R hx h
  | pick c x y =>
    have hc : OkT a c := hops c (by simp [Op.operands])
    have hx : OkT a x := hops x (by simp [Op.operands])
    have hy : OkT a y := hops y (by simp [Op.operands])
    simp only [lookA] at h
    split at h
    · rename_i t ht
      have h1 := pv_val R hc ht
      generalize hcc : a.eval c = cc at h1
      cases h1
      split at h
      · rename_i v hv
        cases h
        cases t
        · exact ⟨a.eval y, by simp [hcc, asBool], pv_val R hy hv⟩
        · exact ⟨a.eval x, by simp [hcc, asBool], pv_val R hx hv⟩
      · cases h
    · cases h
  | nilCheck x =>
    have hx : OkT a x := hops x (by simp [Op.operands])
    simp only [lookA] at h
    split at h
    · rename_i p i j hv
      cases h
      have hr := rd_val R hx hv
      obtain ⟨ad, hc⟩ := bpt_ptr hr
      refine ⟨a.eval x, ?_, hr⟩
      simp only [hc]; rfl
    · rename_i sn cs hv
      cases h
      have hr := rd_val R hx hv
      refine ⟨a.eval x, ?_, hr⟩
      have : ∃ ad, a.eval x = .pointer (some ad) := by
        have hr' : PRep w (zs w X F) (zx w F) (.ref sn cs) (a.eval x) := hr
        generalize a.eval x = c at hr'
        cases hr'; exact ⟨_, rfl⟩
      obtain ⟨ad, hc⟩ := this
      simp only [hc]; rfl
    · cases h
  | binOp bop t x y yt =>
    have hx : OkT a x := hops x (by simp [Op.operands])
    have hy : OkT a y := hops y (by simp [Op.operands])
    simp only [lookA] at h
    split at h
    · rename_i sx sy h1 h2
      split at h
      · rename_i v hv
        cases h
        obtain ⟨c, h3, h4⟩ := bin_run (P := P) (xo := x) (yo := y) (rd_val R hx h1) (rd_val R hy h2) hv
        exact ⟨c, is_value h3, h4⟩
      · cases h
    · cases h
  | unOp u t x =>
    have hx : OkT a x := hops x (by simp [Op.operands])
    simp only [lookA] at h
    split at h
    · rename_i v1 h1
      split at h
      · rename_i v hv
        cases h
        obtain ⟨c, h3, h4⟩ := un_run (P := P) (pv_val R hx h1) hv
        exact ⟨c, is_value h3, h4⟩
      · cases h
    · cases h
  | convert sT dT x =>
    have hx : OkT a x := hops x (by simp [Op.operands])
    simp only [lookA] at h
    split at h
    · rename_i s1 h1
      obtain ⟨c, h3, h4⟩ := conv_run R (rd_val R hx h1) h
      exact ⟨c, is_value h3, h4⟩
    · cases h
  | load t x =>
    have hx : OkT a x := hops x (by simp [Op.operands])
    simp only [lookA] at h
    split at h
    · rename_i s1 h1
      obtain ⟨c, h3, h4⟩ := load_run R (rd_val R hx h1) h
      exact ⟨c, is_value h3, h4⟩
    · cases h
  | fieldAddr t x f =>
    have hx : OkT a x := hops x (by simp [Op.operands])
    simp only [lookA] at h
    split at h
    · rename_i s1 h1
      obtain ⟨c, h3, h4⟩ := fieldAddr_run R (rd_val R hx h1) h
      exact ⟨c, is_value h3, h4⟩
    · cases h
  | indexAddr t x i =>
    have hx : OkT a x := hops x (by simp [Op.operands])
    have hi : OkT a i := hops i (by simp [Op.operands])
    simp only [lookA] at h
    split at h
    · rename_i s1 k n h1 h2
      have h5 := pv_val R hi h2
      generalize hc : a.eval i = ci at h5
      cases h5
      obtain ⟨c, h3, h4⟩ := indexAddr_run R (k := k) (rd_val R hx h1) h
      exact ⟨c, by simp only [hc]; exact is_value h3, h4⟩
    · cases h
  | index t x i =>
    have hx : OkT a x := hops x (by simp [Op.operands])
    have hi : OkT a i := hops i (by simp [Op.operands])
    simp only [lookA] at h
    split at h
    · rename_i v1 k n h1 h2
      split at h
      · rename_i v hv
        cases h
        have h5 := pv_val R hi h2
        generalize hc : a.eval i = ci at h5
        cases h5
        obtain ⟨c, h3, h4⟩ := index_run (P := P) (k := k) (pv_val R hx h1) hv
        exact ⟨c, by simp only [hc]; exact is_value h3, h4⟩
      · cases h
    · cases h
  | field t x f =>
    have hx : OkT a x := hops x (by simp [Op.operands])
    simp only [lookA] at h
    split at h
    · rename_i v1 h1
      split at h
      · rename_i v hv
        cases h
        obtain ⟨c, h3, h4⟩ := field_run (P := P) (pv_val R hx h1) hv
        exact ⟨c, is_value h3, h4⟩
      · cases h
    · cases h
  | slice t x lo hi mx =>
    have hx : OkT a x := hops x (by simp [Op.operands])
    have h1 : OkO a lo := fun y hy => hops y (by subst hy; simp [Op.operands])
    have h2 : OkO a hi := fun y hy => hops y (by subst hy; simp [Op.operands])
    have h3 : OkO a mx := fun y hy => hops y (by subst hy; simp [Op.operands])
    simp only [lookA] at h
    split at h
    · cases h
    · rename_i hm
      split at h
      · rename_i s1 h4
        obtain ⟨c, h5, h6⟩ := slice_run R h1 h2 h3 (rd_val R hx h4) h (by cases mx <;> cases hi <;> simp_all)
        exact ⟨c, is_value h5, h6⟩
      · cases h
  | sliceToArrayPointer t x =>
    have hx : OkT a x := hops x (by simp [Op.operands])
    simp only [lookA] at h
    split at h
    · rename_i s1 h1
      obtain ⟨c, h3, h4⟩ := arrayAt_run (rd_val R hx h1) h
      exact ⟨c, is_value h3, h4⟩
    · cases h
  | makeFunc fn first captured =>
    cases fn <;> simp only [lookA] at h <;> try (cases h; done)
    split at h
    · rename_i f hh
      cases h
      simp only [Array.isEmpty_iff] at hh
      obtain ⟨rfl, rfl⟩ := hh
      exact ⟨_, by simp [Instr.makeFunc], .fn false f [] [] rfl (by simp)⟩
    · cases h
  | call c =>
    obtain ⟨callee, args, ts⟩ := c
    cases callee with
    | builtin b =>
      cases b <;> simp only [lookA] at h <;> try (cases h; done)
      case len =>
        split at h
        · rename_i x t h1 h2
          obtain ⟨args⟩ := args; obtain ⟨ts⟩ := ts
          simp only at h1 h2
          subst h1; subst h2
          have hx : OkT a x := hops x (by simp [Op.operands, Call.operands])
          split at h
          · rename_i s1 h3
            split at h
            · rename_i n h4
              cases h
              have := len_run (ty := type) R (rd_val R hx h3) h4
              have this' : (Builtin.len_ #[t] type #[a.eval x]).run P w = .ok _ w := this
              exact ⟨_, by simp [resolve, invoke, builtin, this'], .int _ _⟩
            · cases h
          · cases h
        · cases h
      case min =>
        split at h
        · rename_i k l h1
          split at h
          · rename_i n h2
            cases h
            have h3 := ints_val R (fun x hx => hops x (by simp [Op.operands, Call.operands]; exact Array.mem_toList_iff.1 hx)) h1
            have h4 : (args.map a.eval) = (l.map (Value.int k)).toArray := by
              apply Array.ext'; simpa using h3
            have this' : (Builtin.min_ ts type (l.map (Value.int k)).toArray).run P w = .ok _ w := min_run (P := P) (w := w) (ts := ts) (t := type) (k := k) h2
            exact ⟨_, by simp [resolve, invoke, builtin, h4, this'], .int _ _⟩
          · cases h
        · cases h
      case max =>
        split at h
        · rename_i k l h1
          split at h
          · rename_i n h2
            cases h
            have h3 := ints_val R (fun x hx => hops x (by simp [Op.operands, Call.operands]; exact Array.mem_toList_iff.1 hx)) h1
            have h4 : (args.map a.eval) = (l.map (Value.int k)).toArray := by
              apply Array.ext'; simpa using h3
            have this' : (Builtin.max_ ts type (l.map (Value.int k)).toArray).run P w = .ok _ w := max_run (P := P) (w := w) (ts := ts) (t := type) (k := k) h2
            exact ⟨_, by simp [resolve, invoke, builtin, h4, this'], .int _ _⟩
          · cases h
        · cases h
      case unsafeSliceData =>
        split at h
        · rename_i x h1
          obtain ⟨args⟩ := args
          simp only at h1
          subst h1
          have hx : OkT a x := hops x (by simp [Op.operands, Call.operands])
          split at h
          · rename_i p n ex h3
            cases h
            obtain ⟨q, z, cz, hq, hz, hcz, ty', es, ad, L, cap, ad', cap', rfl, rfl, h4, hc, h5, h6, h7, h8⟩ := rd_val R hx h3
            cases hq
            rcases h8 with ⟨h8, _⟩ | ⟨b, o, rfl, rfl⟩
            · omega
            · have hn : cap' ≠ 0 := by omega
              obtain ⟨me, G, hT, _⟩ := R.rel.node hz hcz
              have hp : 0 < P.cellsOf ty' := by cases hT <;> first | assumption | (simp at h4 <;> omega)
              simp only [Nat.zero_mul, Nat.add_zero] at hc
              have hu : Builtin.unsafeSliceData_ ts type #[.slice (some ⟨b, o, none⟩) (n + 1) cap'] = pure (.pointer (some ⟨b, o, none⟩)) := by
                show (if cap' ≠ 0 then _ else _) = _
                rw [if_pos hn]
              refine ⟨.pointer (some ⟨b, o, none⟩), by simp [resolve, invoke, builtin, hc, hu], _, _, _, rfl, hz, hcz, .inl ⟨ty', es, b, o, L, cap, rfl, rfl, by omega, hp, by simp⟩⟩
          · cases h
        · cases h
    | _ => simp only [lookA] at h; cases h
  | _ => simp only [lookA] at h; cases h
end
end Go.Proofs.Ytffofdfikmpanaa.A
