/- The layer A, part 5: what functions come to, reckoned with unknown numbers. Conditions: none. -/
import Derived.Test.YtffofdfikmpanaaLD
import Derived.Test.YtffofdfikmpanaaLC
import Derived.IntWalk
set_option linter.unusedVariables false
set_option linter.unusedSimpArgs false
set_option linter.constructorNameAsVariable false
set_option linter.unusedSectionVars false
namespace Go.Proofs.Ytffofdfikmpanaa.A
set_option linter.unusedVariables false
def iterO {σ R : Type} (f : σ → Option (σ ⊕ R)) : Nat → σ → Option R
  | 0, _ => none
  | n + 1, s => match f s with
    | some (.inl s') => iterO f n s'
    | some (.inr r) => some r
    | none => none
open Classical in
noncomputable def loopO {σ R : Type} (f : σ → Option (σ ⊕ R)) (s : σ) : Option R :=
  if h : ∃ n, (iterO f n s).isSome then iterO f (Classical.choose h) s else none
theorem iterO_mono {σ R : Type} {f : σ → Option (σ ⊕ R)} : ∀ {n m : Nat} {s : σ} {r : R}, iterO f n s = some r → n ≤ m → iterO f m s = some r
  | 0, _, _, _, h, _ => by simp [iterO] at h
  | n + 1, 0, _, _, _, hm => by omega
  | n + 1, m + 1, s, r, h, hm => by
    simp only [iterO] at h ⊢
    split at h
    · exact iterO_mono h (by omega)
    · exact h
    · cases h
theorem loopO_some {σ R : Type} {f : σ → Option (σ ⊕ R)} {s : σ} {r : R} : loopO f s = some r ↔ ∃ n, iterO f n s = some r := by
  unfold loopO
  constructor
  · intro h
    split at h
    · exact ⟨_, h⟩
    · cases h
  · rintro ⟨n, hn⟩
    have hex : ∃ n, (iterO f n s).isSome := ⟨n, by rw [hn]; rfl⟩
    rw [dif_pos hex]
    have hs := Classical.choose_spec hex
    obtain ⟨r', hr'⟩ := Option.isSome_iff_exists.1 hs
    rcases Nat.le_total n (Classical.choose hex) with h | h
    · exact iterO_mono hn h
    · rw [hr']; have := iterO_mono hr' h; rw [hn] at this; exact this.symm
def V.bool? : V → Option Bool | .bool b => some b | _ => none
def V.int? (k : IntKind) : V → Option Int | .int k' n => if k' = k then some n else none | _ => none
def V.str? : V → Option (List UInt8) | .str s => some s | _ => none
def V.lst? (sn : Bool) (sz : Nat) : V → Option (List V) | .sl sn' ex sz' l => if sn' = sn ∧ ex = false ∧ sz' = sz then some l else none | _ => none
def V.agg? : V → Option (List V) | .agg l => some l | _ => none
def arrV (k : IntKind) (x : List Int) : Nat → Nat → List V
  | _, 0 => []
  | i, n + 1 => .int k (x.getD i 0) :: arrV k x (i + 1) n
theorem arrV_get {k : IntKind} {x : List Int} : ∀ {n i j : Nat}, j < n → (arrV k x i n)[j]? = some (.int k (x.getD (i + j) 0))
  | 0, i, j, h => by omega
  | n + 1, i, 0, h => by simp [arrV]
  | n + 1, i, j + 1, h => by
    simp only [arrV, List.getElem?_cons_succ]
    rw [arrV_get (by omega), show i + 1 + j = i + (j + 1) by omega]
theorem arrV_length {k : IntKind} {x : List Int} : ∀ {n i : Nat}, (arrV k x i n).length = n
  | 0, i => rfl
  | n + 1, i => by simp [arrV, arrV_length]
def fitI (x : List Int) : Nat → Nat → List Int
  | _, 0 => []
  | i, n + 1 => x.getD i 0 :: fitI x (i + 1) n
theorem fitI_get {x : List Int} : ∀ {n i j : Nat}, j < n → (fitI x i n)[j]? = some (x.getD (i + j) 0)
  | 0, i, j, h => by omega
  | n + 1, i, 0, h => by simp [fitI]
  | n + 1, i, j + 1, h => by
    simp only [fitI, List.getElem?_cons_succ]
    rw [fitI_get (by omega), show i + 1 + j = i + (j + 1) by omega]
theorem fitI_length {x : List Int} : ∀ {n i : Nat}, (fitI x i n).length = n
  | 0, i => rfl
  | n + 1, i => by simp [fitI, fitI_length]
theorem fitI_eq {x : List Int} {n : Nat} (h : x.length = n) : fitI x 0 n = x := by
  refine List.ext_getElem? fun i => ?_
  by_cases hi : i < n
  · rw [fitI_get hi]; simp [List.getElem?_eq_getElem (show i < x.length by omega)]
  · rw [List.getElem?_eq_none (by rw [fitI_length]; omega), List.getElem?_eq_none (by omega)]
theorem intsOf_arrV {k : IntKind} {n : Nat} {l : List V} {x : List Int} (h : intsOf k n l = some x) : l = arrV k x 0 n ++ l.drop n := by
  obtain ⟨h1, h2⟩ := intsOf_spec h
  refine List.ext_getElem? fun i => ?_
  by_cases hi : i < n
  · rw [List.getElem?_append_left (by rw [arrV_length]; exact hi), arrV_get hi, h2 i hi]; simp
  · rw [List.getElem?_append_right (by rw [arrV_length]; omega), arrV_length, List.getElem?_drop]
    congr 1; omega
inductive Cc where
  | bool
  | int (k : IntKind)
  | str
  | lst (sn : Bool) (sz : Nat)
  | nilp
  | nilf
  | nili
  | any
  | arr (k : IntKind) (n : Nat)
  deriving DecidableEq
@[reducible] def Cc.I : Cc → Type
  | .bool => Bool
  | .int _ => Int
  | .str => List UInt8
  | .lst _ _ => List V
  | .any => V
  | .arr _ _ => List Int
  | .nilp => Unit
  | .nilf => Unit
  | .nili => Unit
def Cc.v : (c : Cc) → c.I → List V
  | .bool, b => [.bool b]
  | .int k, n => [.int k n]
  | .str, s => [.str s]
  | .lst sn sz, l => [.sl sn false sz l]
  | .any, v => [v]
  | .arr k n, x => arrV k x 0 n
  | .nilp, _ => [.nilp]
  | .nilf, _ => [.nilf]
  | .nili, _ => [.nili]
def hdK {α : Type} (f : V → Option α) : List V → Option (α × List V)
  | v :: t => (f v).bind fun y => some (y, t)
  | [] => none
def Cc.take : (c : Cc) → List V → Option (c.I × List V)
  | .bool, l => hdK V.bool? l
  | .int k, l => hdK (V.int? k) l
  | .str, l => hdK V.str? l
  | .lst sn sz, l => hdK (V.lst? sn sz) l
  | .any, l => hdK some l
  | .arr k n, l => (intsOf k n l).bind fun x => some (x, l.drop n)
  | .nilp, l => hdK (fun v => match v with | .nilp => some () | _ => none) l
  | .nilf, l => hdK (fun v => match v with | .nilf => some () | _ => none) l
  | .nili, l => hdK (fun v => match v with | .nili => some () | _ => none) l
theorem hdK_some {α : Type} {f : V → Option α} {l t : List V} {y : α} (h : hdK f l = some (y, t)) : ∃ v, l = v :: t ∧ f v = some y := by
  cases l with
  | nil => simp [hdK] at h
  | cons v l =>
    simp only [hdK, Option.bind_eq_some_iff] at h
    obtain ⟨y', h1, h2⟩ := h
    cases h2
    exact ⟨v, rfl, h1⟩
theorem Cc.take_v {c : Cc} {l t : List V} {y : c.I} (h : c.take l = some (y, t)) : l = c.v y ++ t := by
  cases c with
  | arr k n =>
    simp only [Cc.take, Option.bind_eq_some_iff] at h
    obtain ⟨x, hx, h⟩ := h
    cases h
    exact intsOf_arrV hx
  | _ =>
    obtain ⟨v, rfl, hv⟩ := hdK_some h
    cases v <;> simp_all [Cc.v, V.bool?, V.int?, V.str?, V.lst?]
@[reducible] def Cr : List Cc → Type
  | [] => Unit
  | [c] => c.I
  | c :: d :: r => c.I × Cr (d :: r)
def Cr.v : (cs : List Cc) → Cr cs → List V
  | [], _ => []
  | [c], y => c.v y
  | c :: d :: r, y => c.v y.1 ++ Cr.v (d :: r) y.2
def Cr.get : (cs : List Cc) → List V → Option (Cr cs)
  | [], l => match l with | [] => some () | _ => none
  | [c], l => (c.take l).bind fun p => match p.2 with | [] => some p.1 | _ :: _ => none
  | c :: d :: r, l => (c.take l).bind fun p => (Cr.get (d :: r) p.2).bind fun z => some (p.1, z)
theorem Cr.get_v : ∀ {cs : List Cc} {l : List V} {y : Cr cs}, Cr.get cs l = some y → l = Cr.v cs y
  | [], l, y, h => by cases l <;> simp_all [Cr.get, Cr.v]
  | [c], l, y, h => by
    simp only [Cr.get, Option.bind_eq_some_iff] at h
    obtain ⟨⟨a, t⟩, ha, h⟩ := h
    have := Cc.take_v ha
    cases t with
    | nil => cases h; simpa [Cr.v] using this
    | cons _ _ => cases h
  | c :: d :: r, l, y, h => by
    simp only [Cr.get, Option.bind_eq_some_iff] at h
    obtain ⟨⟨a, t⟩, ha, b, hb, he⟩ := h
    cases he
    simp only [Cr.v]
    rw [Cc.take_v ha]; exact congrArg (c.v a ++ ·) (Cr.get_v hb)
def V.st? (cs : List Cc) (v : V) : Option (Cr cs) := v.agg?.bind (Cr.get cs)
def rowT (P : Program) : Nat → TypeId → List Cc
  | 0, _ => [.any]
  | d + 1, t => match P.underlying t with
    | some .bool => [.bool]
    | some (.int k) => [.int k]
    | some .string => [.str]
    | some (.slice e) => [.lst false (P.cellsOf e)]
    | some (.struct fs) => fs.toList.flatMap fun f => rowT P d f.type
    | some (.array n e) => match P.underlying e with
      | some (.int k) => if 4 ≤ n then [.arr k n] else List.replicate n (.int k)
      | _ => if n ≤ 64 then (List.replicate n (rowT P d e)).flatten else [.any]
    | _ => [.any]
def V.cc : V → Cc
  | .bool _ => .bool
  | .int k _ => .int k
  | .str _ => .str
  | .sl sn ex sz _ => if ex then .any else .lst sn sz
  | .nilp => .nilp
  | .nilf => .nilf
  | .nili => .nili
  | _ => .any
def addC : Cc → List Cc → List Cc
  | .int k, .arr k' n :: r => if k = k' then .arr k (n + 1) :: r else .arr k 1 :: .arr k' n :: r
  | .int k, r => .arr k 1 :: r
  | c, r => c :: r
def splitC : List Cc → List Cc
  | [] => []
  | .arr k n :: r => if n < 8 then List.replicate n (.int k) ++ splitC r else .arr k n :: splitC r
  | c :: r => c :: splitC r
def rowOf (l : List V) : List Cc := splitC (l.foldr (fun v r => addC v.cc r) [])
inductive Cd where
  | bool
  | int (k : IntKind)
  | str
  | lst (sn : Bool) (sz : Nat)
  | agg
  | st (row : List Cc)
  | nilp
  | nilf
  | nili
  | clo1 (f : FuncId) (c : Cd)
  | fn0 (f : FuncId)
  deriving DecidableEq
@[reducible] def Cd.I : Cd → Type
  | .bool => Bool
  | .int _ => Int
  | .str => List UInt8
  | .lst _ _ => List V
  | .agg => List V
  | .st row => Cr row
  | .clo1 _ c => c.I
  | .fn0 _ => Unit
  | .nilp => Unit
  | .nilf => Unit
  | .nili => Unit
def Cd.v : (c : Cd) → c.I → V
  | .bool, b => .bool b
  | .int k, n => .int k n
  | .str, s => .str s
  | .lst sn sz, l => .sl sn false sz l
  | .agg, l => .agg l
  | .st row, y => .agg (Cr.v row y)
  | .nilp, _ => .nilp
  | .nilf, _ => .nilf
  | .nili, _ => .nili
  | .clo1 f c, y => .fn false f [.ref false [c.v y]]
  | .fn0 f, _ => .fn false f []
def Cd.get : (c : Cd) → V → Option c.I
  | .bool, v => v.bool?
  | .int k, v => v.int? k
  | .str, v => v.str?
  | .lst sn sz, v => v.lst? sn sz
  | .agg, v => v.agg?
  | .st row, v => v.st? row
  | .nilp, v => match v with | .nilp => some () | _ => none
  | .nilf, v => match v with | .nilf => some () | _ => none
  | .nili, v => match v with | .nili => some () | _ => none
  | .clo1 f c, v => match v with | .fn false f' [.ref false [x]] => if f' = f then c.get x else none | _ => none
  | .fn0 f, v => match v with | .fn false f' [] => if f' = f then some () else none | _ => none
theorem Cd.get_v : ∀ {c : Cd} {v : V} {x : c.I}, c.get v = some x → v = c.v x := by
  intro c
  induction c with
  | clo1 f c ih =>
    intro v x h
    simp only [Cd.get] at h
    split at h
    · split at h
      · rename_i hf
        subst hf
        simp only [Cd.v]
        rw [ih h]
      · cases h
    · cases h
  | fn0 f =>
    intro v x h
    simp only [Cd.get] at h
    split at h
    · split at h
      · rename_i hf
        subst hf; rfl
      · cases h
    · cases h
  | st row =>
    intro v x h
    simp only [Cd.get, V.st?, Option.bind_eq_some_iff] at h
    obtain ⟨l, h1, h2⟩ := h
    cases v <;> simp [V.agg?] at h1
    subst h1
    simp only [Cd.v]
    rw [Cr.get_v h2]
  | _ => intro v x h; cases v <;> simp_all [Cd.get, Cd.v, V.bool?, V.int?, V.str?, V.lst?, V.agg?]
def V.cd : V → Option Cd
  | .bool _ => some .bool
  | .int k _ => some (.int k)
  | .str _ => some .str
  | .sl sn ex sz _ => if ex then none else some (.lst sn sz)
  | .agg cs => some (.st (rowOf cs))
  | .nilp => some .nilp
  | .nilf => some .nilf
  | .nili => some .nili
  | .fn false f [.ref false [x]] => match x with
    | .sl sn false sz _ => some (.clo1 f (.lst sn sz))
    | .int k _ => some (.clo1 f (.int k))
    | _ => none
  | .fn false f [] => some (.fn0 f)
  | _ => none
def cdOf (P : Program) (t : TypeId) : Option Cd := match P.underlying t with
  | some .bool => some .bool
  | some (.int k) => some (.int k)
  | some .string => some .str
  | some (.slice e) => some (.lst false (P.cellsOf e))
  | some (.struct _) => some (.st (rowT P 8 t))
  | some (.array n _) => if Nat.ble 16 n = true then some .agg else some (.st (rowT P 8 t))
  | _ => none
inductive Tc where
  | v (c : Cd)
  | own (e : TypeId)
  | on (e : TypeId)
  | np
  | clo (f : FuncId) (ty : TypeId) (c : Cd)
  | dead
  | x
  deriving DecidableEq
@[reducible] def Tc.I : Tc → Type
  | .v c => c.I
  | .own _ => List V
  | .on _ => Option (List V)
  | .np => Bool
  | .clo _ _ c => c.I
  | .x => T
  | _ => Unit
def onT (e : TypeId) : Option (List V) → T
  | some l => .own e l
  | none => .own nilTy []
def T.on? (e : TypeId) : T → Option (Option (List V))
  | .own ty l => if ty = e then some (some l) else if ty = nilTy ∧ l = [] then some none else none
  | _ => none
theorem on_mk {e : TypeId} {t : T} {o : Option (List V)} (h : t.on? e = some o) : t = onT e o := by
  unfold T.on? at h
  split at h
  · split at h
    · rename_i he; subst he; cases h; rfl
    · split at h
      · rename_i he; obtain ⟨rfl, rfl⟩ := he; cases h; rfl
      · cases h
  · cases h
def npT : Bool → T
  | true => .self
  | false => .p .nilp
def T.np? : T → Option Bool
  | .self => some true
  | .p .nilp => some false
  | _ => none
theorem np_mk {t : T} {b : Bool} (h : t.np? = some b) : t = npT b := by
  unfold T.np? at h
  split at h <;> cases h <;> rfl
def Tc.mk : (c : Tc) → c.I → T
  | .v c, y => .p (c.v y)
  | .own e, l => .own e l
  | .on e, o => onT e o
  | .np, b => npT b
  | .clo f ty c, y => .clo f (.opt ty [.p (c.v y)])
  | .dead, _ => .dead
  | .x, t => t
def T.clo? (f : FuncId) (ty : TypeId) : T → Option V
  | .clo f' (.opt ty' [.p v]) => if f' = f ∧ ty' = ty then some v else none
  | _ => none
def T.own? (e : TypeId) : T → Option (List V) | .own e' l => if e' = e then some l else none | _ => none
def T.val? : T → Option V | .p v => some v | _ => none
def Tc.get : (c : Tc) → T → Option c.I
  | .v c, t => t.val?.bind c.get
  | .own e, t => t.own? e
  | .on e, t => t.on? e
  | .np, t => t.np?
  | .clo f ty c, t => (t.clo? f ty).bind c.get
  | .dead, t => match t with | .dead => some () | _ => none
  | .x, t => some t
theorem Tc.get_mk {c : Tc} {t : T} {y : c.I} (h : c.get t = some y) : t = c.mk y := by
  cases c with
  | v c =>
    simp only [Tc.get] at h
    cases t <;> simp [T.val?] at h
    rw [Cd.get_v h]; rfl
  | own e => cases t <;> simp_all [Tc.get, Tc.mk, T.own?]
  | on e => exact on_mk h
  | np => exact np_mk h
  | clo f ty c =>
    simp only [Tc.get, Option.bind_eq_some_iff] at h
    obtain ⟨v, h1, h2⟩ := h
    unfold T.clo? at h1
    split at h1
    · split at h1
      · rename_i hh
        obtain ⟨rfl, rfl⟩ := hh
        cases h1
        simp only [Tc.mk]
        rw [Cd.get_v h2]
      · cases h1
    · cases h1
  | dead => cases t <;> simp_all [Tc.get, Tc.mk]
  | x => simp only [Tc.get, Option.some.injEq] at h; exact h
def T.tc : T → Tc
  | .p .nilp => .np
  | .p v => match v.cd with | some c => .v c | none => .x
  | .own e _ => .own e
  | .self => .np
  | .clo f (.opt ty [.p v]) => match v.cd with | some c => .clo f ty c | none => .x
  | .dead => .dead
  | _ => .x
@[reducible] def Ts : List Tc → Type
  | [] => Unit
  | [c] => c.I
  | c :: d :: r => c.I × Ts (d :: r)
def Ts.mk : (cs : List Tc) → Ts cs → List T
  | [], _ => []
  | [c], y => [c.mk y]
  | c :: d :: r, y => c.mk y.1 :: Ts.mk (d :: r) y.2
def Ts.get : (cs : List Tc) → List T → Option (Ts cs)
  | [], l => match l with | [] => some () | _ => none
  | [c], l => match l with | [t] => c.get t | _ => none
  | c :: d :: r, l => match l with
    | t :: ts => (c.get t).bind fun y => (Ts.get (d :: r) ts).bind fun z => some (y, z)
    | [] => none
theorem Ts.get_mk : ∀ {cs : List Tc} {l : List T} {y : Ts cs}, Ts.get cs l = some y → l = Ts.mk cs y
  | [], l, y, h => by cases l <;> simp_all [Ts.get, Ts.mk]
  | [c], l, y, h => by
    match l with
    | [] => simp [Ts.get] at h
    | [t] => simp only [Ts.get] at h; simp only [Ts.mk]; rw [Tc.get_mk h]
    | _ :: _ :: _ => simp [Ts.get] at h
  | c :: d :: r, l, y, h => by
    match l with
    | [] => simp [Ts.get] at h
    | t :: ts =>
      simp only [Ts.get, Option.bind_eq_some_iff] at h
      obtain ⟨a, ha, b, hb, he⟩ := h
      cases he
      simp only [Ts.mk]
      rw [Tc.get_mk ha, Ts.get_mk hb]
inductive Tr where
  | o (c : Tc)
  | arr (k : IntKind) (n : Nat)
  deriving DecidableEq
@[reducible] def Tr.I : Tr → Type
  | .o c => c.I
  | .arr _ _ => List Int
def Tr.v : (c : Tr) → c.I → List T
  | .o c, y => [c.mk y]
  | .arr k n, x => (arrV k x 0 n).map .p
def Tr.take : (c : Tr) → List T → Option (c.I × List T)
  | .o c, l => match l with
    | x :: t => (c.get x).bind fun y => some (y, t)
    | [] => none
  | .arr k n, l => (elemsS.T.pures (l.take n)).bind fun vs => (intsOf k n vs).bind fun x => some (x, l.drop n)
theorem pures_map : ∀ {l : List T} {vs : List V}, elemsS.T.pures l = some vs → l = vs.map .p
  | [], vs, h => by simp only [elemsS.T.pures, Option.some.injEq] at h; subst h; rfl
  | x :: l, vs, h => by
    cases x <;> simp only [elemsS.T.pures] at h <;> try (cases h; done)
    split at h
    · rename_i l' hl
      cases h
      rw [pures_map hl]; rfl
    · cases h
theorem Tr.take_v {c : Tr} {l t : List T} {y : c.I} (h : c.take l = some (y, t)) : l = c.v y ++ t := by
  cases c with
  | o c =>
    cases l with
    | nil => simp [Tr.take] at h
    | cons x l =>
      simp only [Tr.take, Option.bind_eq_some_iff] at h
      obtain ⟨y', h1, h2⟩ := h
      cases h2
      simp only [Tr.v]
      rw [Tc.get_mk h1]; rfl
  | arr k n =>
    simp only [Tr.take, Option.bind_eq_some_iff] at h
    obtain ⟨vs, hv, x, hx, h⟩ := h
    cases h
    have h1 := pures_map hv
    have h2 := intsOf_arrV hx
    have h3 : vs.drop n = [] := by
      have : vs.length ≤ n := by
        have := congrArg List.length h1
        simp at this; omega
      exact List.drop_eq_nil_of_le this
    rw [h3, List.append_nil] at h2
    simp only [Tr.v]
    rw [← h2, ← h1, List.take_append_drop]
@[reducible] def Trs : List Tr → Type
  | [] => Unit
  | [c] => c.I
  | c :: d :: r => c.I × Trs (d :: r)
def Trs.mk : (cs : List Tr) → Trs cs → List T
  | [], _ => []
  | [c], y => c.v y
  | c :: d :: r, y => c.v y.1 ++ Trs.mk (d :: r) y.2
def Trs.get : (cs : List Tr) → List T → Option (Trs cs)
  | [], l => match l with | [] => some () | _ => none
  | [c], l => (c.take l).bind fun p => match p.2 with | [] => some p.1 | _ :: _ => none
  | c :: d :: r, l => (c.take l).bind fun p => (Trs.get (d :: r) p.2).bind fun z => some (p.1, z)
theorem Trs.get_mk : ∀ {cs : List Tr} {l : List T} {y : Trs cs}, Trs.get cs l = some y → l = Trs.mk cs y
  | [], l, y, h => by cases l <;> simp_all [Trs.get, Trs.mk]
  | [c], l, y, h => by
    simp only [Trs.get, Option.bind_eq_some_iff] at h
    obtain ⟨⟨a, t⟩, ha, h⟩ := h
    have := Tr.take_v ha
    cases t with
    | nil => cases h; simpa [Trs.mk] using this
    | cons _ _ => cases h
  | c :: d :: r, l, y, h => by
    simp only [Trs.get, Option.bind_eq_some_iff] at h
    obtain ⟨⟨a, t⟩, ha, b, hb, he⟩ := h
    cases he
    simp only [Trs.mk]
    rw [Tr.take_v ha]; exact congrArg (c.v a ++ ·) (Trs.get_mk hb)
def addR : Tc → List Tr → List Tr
  | .v (.int k), .arr k' n :: r => if k = k' then .arr k (n + 1) :: r else .arr k 1 :: .arr k' n :: r
  | .v (.int k), r => .arr k 1 :: r
  | c, r => .o c :: r
def splitR : List Tr → List Tr
  | [] => []
  | .arr k n :: r => if n < 8 then List.replicate n (.o (.v (.int k))) ++ splitR r else .arr k n :: splitR r
  | c :: r => c :: splitR r
def trowOf (l : List T) : List Tr := splitR (l.foldr (fun x r => addR x.tc r) [])
inductive Sc where
  | t (c : Tc)
  | nodeR (ty : TypeId) (cs : List Tr)
  | node (ty : TypeId) (cs : List Tc)
  | nodeO (ty : TypeId)
  | nodeI (ty u ty2 : TypeId) (cs : List Tr)
  | bsl (p : Pl) (ex : Bool)
  | bpt (p : Pl) (i j : Nat)
  | bar (p : Pl) (sz : Nat)
  deriving DecidableEq
@[reducible] def Sc.I : Sc → Type
  | .t c => c.I
  | .nodeR _ cs => Trs cs
  | .node _ cs => Ts cs
  | .nodeO _ => List T
  | .nodeI _ _ _ cs => Trs cs
  | .bsl _ _ => Nat × Nat
  | .bpt _ _ _ => Unit
  | .bar _ _ => Nat × Nat
def Sc.mk : (c : Sc) → c.I → S
  | .t c, y => .t (c.mk y)
  | .nodeR ty cs, y => .t (.opt ty (Trs.mk cs y))
  | .node ty cs, y => .t (.opt ty (Ts.mk cs y))
  | .nodeO ty, l => .t (.opt ty l)
  | .nodeI ty u ty2 cs, y => .t (.opt ty [.ifc u (.opt ty2 (Trs.mk cs y))])
  | .bsl p ex, y => .bsl p y.1 y.2 ex
  | .bpt p i j, _ => .bpt p i j
  | .bar p sz, y => .bar p y.1 sz y.2
def Sc.get : (c : Sc) → S → Option c.I
  | .t c, s => match s with | .t x => c.get x | _ => none
  | .nodeR ty cs, s => match s with | .t (.opt ty' l) => if ty' = ty then Trs.get cs l else none | _ => none
  | .node ty cs, s => match s with | .t (.opt ty' l) => if ty' = ty then Ts.get cs l else none | _ => none
  | .nodeO ty, s => match s with | .t (.opt ty' l) => if ty' = ty then some l else none | _ => none
  | .nodeI ty u ty2 cs, s => match s with | .t (.opt ty' [.ifc u' (.opt ty2' l)]) => if ty' = ty ∧ u' = u ∧ ty2' = ty2 then Trs.get cs l else none | _ => none
  | .bsl p ex, s => match s with | .bsl p' o l ex' => if p' = p ∧ ex' = ex then some (o, l) else none | _ => none
  | .bpt p i j, s => match s with | .bpt p' i' j' => if p' = p ∧ i' = i ∧ j' = j then some () else none | _ => none
  | .bar p sz, s => match s with | .bar p' j sz' l => if p' = p ∧ sz' = sz then some (j, l) else none | _ => none
theorem Sc.get_mk {c : Sc} {s : S} {y : c.I} (h : c.get s = some y) : s = c.mk y := by
  cases c with
  | t c =>
    cases s <;> simp only [Sc.get] at h <;> first | cases h | (simp only [Sc.mk]; rw [Tc.get_mk h])
  | node ty cs =>
    simp only [Sc.get] at h
    split at h
    · split at h
      · rename_i he; subst he; simp only [Sc.mk]; rw [Ts.get_mk h]
      · cases h
    · cases h
  | nodeR ty cs =>
    simp only [Sc.get] at h
    split at h
    · split at h
      · rename_i he; subst he; simp only [Sc.mk]; rw [Trs.get_mk h]
      · cases h
    · cases h
  | nodeI ty u ty2 cs =>
    simp only [Sc.get] at h
    split at h
    · split at h
      · rename_i he; obtain ⟨rfl, rfl, rfl⟩ := he; simp only [Sc.mk]; rw [Trs.get_mk h]
      · cases h
    · cases h
  | nodeO ty =>
    simp only [Sc.get] at h
    split at h
    · split at h
      · rename_i he; subst he; cases h; rfl
      · cases h
    · cases h
  | bsl p ex =>
    simp only [Sc.get] at h
    split at h
    · split at h
      · rename_i he; obtain ⟨rfl, rfl⟩ := he; cases h; rfl
      · cases h
    · cases h
  | bpt p i j =>
    simp only [Sc.get] at h
    split at h
    · split at h
      · rename_i he; obtain ⟨rfl, rfl, rfl⟩ := he; rfl
      · cases h
    · cases h
  | bar p sz =>
    simp only [Sc.get] at h
    split at h
    · split at h
      · rename_i he; obtain ⟨rfl, rfl⟩ := he; cases h; rfl
      · cases h
    · cases h
structure Ho where
  big : Nat → Bool := fun _ => false
  node : TypeId → Option (List Tc) := fun _ => none
  bigT : TypeId → Bool := fun _ => false
  /-- What the items are of a function that is ranged over. -/
  item : FuncId → List Cd := fun _ => []
  /-- Slots of a function that hold arrays of many numbers. -/
  bigF : FuncId → Nat → Bool := fun _ _ => false
  /-- Types of nodes whose cells are coded by rows. -/
  nodeR : TypeId → Option (List Tr) := fun _ => none
def Ho.on (ho : Ho) (f : FuncId) : Ho := { ho with big := ho.bigF f }
def S.sc (ho : Ho) (i : Nat) : S → Option Sc
  | .t (.opt ty l) => some (match ho.node ty with
    | some cs => .node ty cs
    | none => match ho.nodeR ty with
      | some cs => .nodeR ty cs
      | none => if ho.big i || ho.bigT ty then .nodeO ty else match l with
        | [.ifc u (.opt ty2 l2)] => .nodeI ty u ty2 (trowOf l2)
        | l => if 8 ≤ l.length then .nodeR ty (trowOf l) else .node ty (l.map T.tc))
  | .t (.p (.agg l)) => some (.t (if ho.big i then .v .agg else T.tc (.p (.agg l))))
  | .t x => some (.t x.tc)
  | .bsl p _ _ ex => some (.bsl p ex)
  | .bpt p i j => some (.bpt p i j)
  | .bar p _ sz _ => some (.bar p sz)
  | _ => none
@[reducible] def Ss : List (Nat × Sc) → Type
  | [] => Unit
  | [c] => c.2.I
  | c :: d :: r => c.2.I × Ss (d :: r)
def Ss.put : (cs : List (Nat × Sc)) → Ss cs → List S → List S
  | [], _, l => l
  | [c], y, l => l.set c.1 (c.2.mk y)
  | c :: d :: r, y, l => Ss.put (d :: r) y.2 (l.set c.1 (c.2.mk y.1))
def Ss.get : (cs : List (Nat × Sc)) → List S → Option (Ss cs)
  | [], _ => some ()
  | [c], l => match l[c.1]? with | some s => c.2.get s | none => none
  | c :: d :: r, l => match l[c.1]? with
    | some s => (c.2.get s).bind fun y => (Ss.get (d :: r) l).bind fun z => some (y, z)
    | none => none
theorem Ss.get_put : ∀ {cs : List (Nat × Sc)} {l m : List S} {y : Ss cs}, Ss.get cs l = some y → m.length = l.length → (∀ i, i ∉ cs.map (·.1) → m[i]? = l[i]?) → Ss.put cs y m = l
  | [], l, m, y, _, hl, h => by
    simp only [Ss.put]
    exact List.ext_getElem? fun i => h i (by simp)
  | [c], l, m, y, hg, hl, h => by
    simp only [Ss.put]
    simp only [Ss.get] at hg
    split at hg
    · rename_i s hs
      refine List.ext_getElem? fun i => ?_
      by_cases he : i = c.1
      · subst he
        rw [List.getElem?_set_self (by rw [hl]; exact (List.getElem?_eq_some_iff.1 hs).1), hs, Sc.get_mk hg]
      · rw [List.getElem?_set_ne (Ne.symm he)]; exact h i (by simpa using he)
    · cases hg
  | c :: d :: r, l, m, y, hg, hl, h => by
    simp only [Ss.put]
    simp only [Ss.get] at hg
    split at hg
    · rename_i s hs
      simp only [Option.bind_eq_some_iff] at hg
      obtain ⟨a, ha, b, hb, he⟩ := hg
      cases he
      refine Ss.get_put hb (by simpa using hl) fun i hi => ?_
      by_cases he : i = c.1
      · subst he
        rw [List.getElem?_set_self (by rw [hl]; exact (List.getElem?_eq_some_iff.1 hs).1), hs, Sc.get_mk ha]
      · rw [List.getElem?_set_ne (Ne.symm he)]; exact h i (by simp only [List.map_cons, List.mem_cons, not_or] at hi ⊢; exact ⟨he, hi⟩)
    · cases hg
abbrev CallRes := (R : Type) → (T → List T → Option R) → Option R
abbrev Sp := FuncId → List Arg → Option CallRes
def SpOk (K : Oracle) (sp : Sp) : Prop := ∀ (f : FuncId) (args : List Arg) (c : CallRes) (R : Type) (k : T → List T → Option R) (r : R), sp f args = some c → c R k = some r → ∃ t outs, K f args = some (t, outs) ∧ k t outs = some r
section
variable {R : Type}
def forceB (b : Bool) (k : Bool → Option R) : Option R := match b with | true => k true | false => k false
def forceN (n : Nat) (k : Nat → Option R) : Option R := if n = 0 then k 0 else if n = 1 then k 1 else k n
def forceV (v : V) (k : V → Option R) : Option R := match v with
  | .bool b => k (.bool b)
  | .int kd n => k (.int kd n)
  | .str s => k (.str s)
  | .nilp => k .nilp
  | .anyp => k .anyp
  | .nilf => k .nilf
  | .nili => k .nili
  | .lenO n => k (.lenO n)
  | .agg cs => k (.agg cs)
  | .sl sn ex sz es => forceB sn fun sn => forceB ex fun ex => forceN sz fun sz => k (.sl sn ex sz es)
  | .ref sn cs => forceB sn fun sn => k (.ref sn cs)
  | .fn sn f caps => k (.fn sn f caps)
  | .ifc t v => k (.ifc t v)
def forceT (x : T) (k : T → Option R) : Option R := match x with
  | .p v => forceV v fun v => k (.p v)
  | .own ty es => k (.own ty es)
  | .opt ty cs => k (.opt ty cs)
  | .self => k .self
  | .tup cs => k (.tup cs)
  | .agg cs => k (.agg cs)
  | .ifc t x => k (.ifc t x)
  | .clo f x => k (.clo f x)
  | .dead => k .dead
def forceS (s : S) (k : S → Option R) : Option R := match s with
  | .t x => forceT x fun x => k (.t x)
  | .bsl p o l e => forceB e fun e => k (.bsl p o l e)
  | .bpt p i j => k (.bpt p i j)
  | .bar p j sz l => k (.bar p j sz l)
  | .bfn f caps => k (.bfn f caps)
  | .bfc t p => k (.bfc t p)
def forceL : List S → (List S → Option R) → Option R
  | [], k => k []
  | s :: r, k => forceS s fun s' => forceL r fun r' => k (s' :: r')
theorem forceB_eq (b : Bool) (k : Bool → Option R) : forceB b k = k b := by cases b <;> rfl
theorem forceN_eq (n : Nat) (k : Nat → Option R) : forceN n k = k n := by
  unfold forceN
  split
  · rename_i h; rw [h]
  · split
    · rename_i h; rw [h]
    · rfl
theorem forceV_eq (v : V) (k : V → Option R) : forceV v k = k v := by cases v <;> simp only [forceV, forceB_eq, forceN_eq]
theorem forceT_eq (x : T) (k : T → Option R) : forceT x k = k x := by cases x <;> simp only [forceT, forceV_eq]
theorem forceS_eq (s : S) (k : S → Option R) : forceS s k = k s := by cases s <;> simp only [forceS, forceT_eq, forceB_eq]
theorem forceL_eq : ∀ (l : List S) (k : List S → Option R), forceL l k = k l
  | [], k => rfl
  | s :: r, k => by simp only [forceL, forceS_eq, forceL_eq r]
def onS (x : Option (List S)) (k : List S → Option R) : Option R := match x with | some s => k s | none => none
def binK (P : Program) (op : BinOp) (t : TypeId) (sl : List S) (x y : S) (k : V → Option R) : Option R :=
  match x, y with
  | .t (.p (.int kd a)), .t (.p (.int kd' b)) => match op with
    | .shl => if b < 0 then none else k (.int kd (wordShl kd a b))
    | .shr => if b < 0 then none else k (.int kd (wordShr kd a b))
    | .quo => if kd ≠ kd' then none else if b = 0 then none else k (.int kd (kd.wrap (a.tdiv b)))
    | .rem => if kd ≠ kd' then none else if b = 0 then none else k (.int kd (a.tmod b))
    | _ => match binInt op kd a kd' b with | some v => k v | none => none
  | .t (.p (.str a)), .t (.p (.str b)) => match op with
    | .add => if a.length + b.length ≤ 2147483648 then k (.str (a ++ b)) else none
    | _ => match binStr op a b with | some v => k v | none => none
  | .t (.p (.agg a)), .t (.p (.agg b)) => match P.underlying t with
    | some (.array n e) => match P.underlying e with
      | some (.int q) => if P.eqGuardType P.depth t = false ∧ P.cellsOf e = 1 then (intsOf q n a).bind fun x => (intsOf q n b).bind fun y => match op with
          | .eql => k (.bool (x == y))
          | .neq => k (.bool (!(x == y)))
          | _ => none
        else none
      | _ => none
    | _ => none
  | _, _ => match bin P op t sl x y with | some v => k v | none => none
def pickKv (sl : List S) (c a b : Operand) (k : V → Option R) : Option R :=
  match pv sl c with
  | some (.bool t) => match pv sl a, pv sl b with
    | some (.bool x), some (.bool y) => k (.bool (if t then x else y))
    | some (.int kd x), some (.int kd' y) => if kd = kd' then k (.int kd (if t then x else y)) else none
    | x, y => if t then (match x with | some v => k v | none => none) else (match y with | some v => k v | none => none)
  | _ => none
def viewK (P : Program) (t : TypeId) (v : V) (k : V → Option R) : Option R :=
  match cdOf P t with
  | some c => (c.get v).bind fun y => k (c.v y)
  | none => k v
def loadK (P : Program) (t : TypeId) (sl : List S) (s : S) (k : S → Option R) : Option R :=
  match s with
  | .t (.p (.ref sn cs)) =>
    match aggT P t with
    | some true => if P.cellsOf t ≤ cs.length ∧ 0 < P.cellsOf t then viewK P t (.agg (cs.take (P.cellsOf t))) fun u => k (.v u) else none
    | some false => (cs[0]?).bind fun v => viewK P t v fun u => k (.v u)
    | none => none
  | .bpt p i j => match slAt sl p with
    | some (.own ty es) => (es[i]?).bind fun e =>
      match aggT P t with
        | some true => if P.cellsOf t = P.cellsOf ty ∧ j = 0 ∧ 0 < P.cellsOf t then (viewK P t e fun u => if u.cells.length = P.cellsOf t ∧ u.isAgg then k (.v u) else none)
          else if j + P.cellsOf t ≤ e.cells.length ∧ 0 < P.cellsOf t then viewK P t (.agg ((e.cells.drop j).take (P.cellsOf t))) fun u => k (.v u) else none
        | some false => (e.cells[j]?).bind fun v => viewK P t v fun u => k (.v u)
        | none => none
    | _ => match load P t sl s with | some u => k u | none => none
  | _ => match load P t sl s with | some u => k u | none => none
def indexAddrK (P : Program) (t : TypeId) (sl : List S) (s : S) (ix : Int) (k : S → Option R) : Option R :=
  match P.underlying t with
  | some (.slice e) => match s with
    | .bsl p off len _ => match slAt sl p with
      | some (.own ty es) => if ty = e then (if 0 ≤ ix ∧ ix < (len : Int) then k (.bpt p (off + ix.toNat) 0) else none) else none
      | _ => none
    | .t (.p (.sl sn _ sz es)) => if sz = P.cellsOf e ∧ 0 < sz then (if 0 ≤ ix then (es[ix.toNat]?).bind fun x => viewK P e x fun x => k (.v (.ref sn x.cells)) else none) else none
    | .bar p j sz len => if sz = P.cellsOf e ∧ 0 < sz then (if 0 ≤ ix ∧ ix < (len : Int) then k (.bpt p 0 (j + ix.toNat * sz)) else none) else none
    | _ => none
  | some (.array n e) => if 0 < P.cellsOf e then (if 0 ≤ ix ∧ ix < (n : Int) then
      (match s with
      | .bpt p i j => match slAt sl p with
        | some (.own ty es) => if j + ix.toNat * P.cellsOf e < P.cellsOf ty then k (.bpt p i (j + ix.toNat * P.cellsOf e)) else none
        | some (.opt ty cs) => if j + ix.toNat * P.cellsOf e < cs.length then k (.bpt p i (j + ix.toNat * P.cellsOf e)) else none
        | _ => none
      | .t (.p (.ref sn cs)) => if ix.toNat * P.cellsOf e ≤ cs.length then k (.v (.ref sn (cs.drop (ix.toNat * P.cellsOf e)))) else none
      | _ => none)
    else none) else none
  | _ => none
def indexK (P : Program) (t : TypeId) (x : V) (ix : Int) (k : V → Option R) : Option R :=
  match P.underlying t, x with
  | some .string, .str s => if 0 ≤ ix then (s[ix.toNat]?).bind fun b => k (byteV b) else none
  | some (.array n e), .agg cs => if 0 ≤ ix ∧ ix < (n : Int) then (match P.underlying e with
      | some (.int q) => if Nat.ble 16 n = true then (if P.cellsOf e = 1 then (cs[ix.toNat]?).bind fun v => viewK P e v k else none) else if P.cellsOf e = 1 then (intsOf q n cs).bind fun x => (x[ix.toNat]?).bind fun a => k (.int q a) else none
      | _ => (partV P e cs (ix.toNat * P.cellsOf e)).bind fun v => viewK P e v k) else none
  | _, _ => none
def arrayAtK (P : Program) (t : TypeId) (s : S) (k : S → Option R) : Option R :=
  match P.underlying t, s with
  | some (.array n e), .t (.p (.sl sn _ sz es)) => match P.underlying e with
    | some (.int q) => if sz = P.cellsOf e ∧ sz = 1 ∧ 0 < n then (if n ≤ es.length then (intsOf q n es).bind fun x => k (.v (.ref sn (arrV q x 0 n))) else none) else none
    | _ => match arrayAt P t s with | some u => k u | none => none
  | some (.array n e), .bar p j sz len => if sz = P.cellsOf e ∧ 0 < sz ∧ 0 < n ∧ n ≤ len then k (.bpt p 0 j) else none
  | _, _ => none
def fieldK (P : Program) (t : TypeId) (x : V) (f : Nat) (k : V → Option R) : Option R :=
  match P.underlying t, x with
  | some (.struct fs), .agg cs => match fs[f]? with
    | some fd => match aggT P fd.type with
      | some true => if fd.offset + P.cellsOf fd.type ≤ cs.length ∧ 0 < P.cellsOf fd.type then k (.agg ((cs.drop fd.offset).take (P.cellsOf fd.type))) else none
      | some false => (cs[fd.offset]?).bind fun v => viewK P fd.type v k
      | none => none
    | none => none
  | _, _ => none
def bndK (sl : List S) (d : Nat) (x : Option Operand) (k : Nat → Option R) : Option R :=
  match x with
  | none => k d
  | some x => match pv sl x with
    | some (.int _ n) => if 0 ≤ n then k n.toNat else none
    | _ => none
def sliceK (P : Program) (t : TypeId) (sl : List S) (s : S) (lo hi mx : Option Operand) (k : S → Option R) : Option R :=
  match P.underlying t with
  | some .string => match s with
    | .t (.p (.str x)) => if mx.isSome then none else bndK sl 0 lo fun l => bndK sl x.length hi fun h => if l ≤ h ∧ h ≤ x.length then k (.v (.str ((x.drop l).take (h - l)))) else none
    | _ => none
  | some (.slice e) => match s with
    | .t (.p (.sl sn false sz es)) => if mx.isSome then (if sz = P.cellsOf e ∧ 0 < P.cellsOf e then
        (bndK sl 0 lo fun l => bndK sl es.length hi fun h => bndK sl es.length mx fun m => if l ≤ h ∧ h = m ∧ m ≤ es.length then k (.v (.sl sn true sz ((es.drop l).take (h - l)))) else none) else none) else if sz = P.cellsOf e ∧ 0 < P.cellsOf e then
        (bndK sl 0 lo fun l => bndK sl es.length hi fun h => if l ≤ h ∧ h ≤ es.length then k (.v (.sl sn false sz ((es.drop l).take (h - l)))) else none) else none
    | .bsl p off len false => match slAt sl p with
      | some (.own ty es) => if mx.isSome then (if ty = e ∧ 0 < P.cellsOf e then
        (bndK sl 0 lo fun l => bndK sl len hi fun h => bndK sl len mx fun m => if l ≤ h ∧ h = m ∧ m ≤ len then k (.bsl p (off + l) (h - l) true) else none) else none) else if ty = e ∧ 0 < P.cellsOf e then
        (bndK sl 0 lo fun l => bndK sl len hi fun h => if l ≤ h ∧ h ≤ len then k (.bsl p (off + l) (h - l) false) else none) else none
      | _ => none
    | .bar p j sz len => if mx.isNone ∧ sz = P.cellsOf e ∧ 0 < sz then
        (bndK sl 0 lo fun l => bndK sl len hi fun h => if l ≤ h ∧ h ≤ len then k (.bar p (j + l * sz) sz (h - l)) else none) else none
    | _ => match sliceOp P t sl s lo hi mx with | some u => k u | none => none
  | some (.array n e) => match s with
    | .bpt p i j => match slAt sl p with
      | some (.opt ty cs) => if mx.isNone ∧ 0 < P.cellsOf e then
          (bndK sl 0 lo fun l => bndK sl n hi fun h => if l ≤ h ∧ h ≤ n ∧ j + n * P.cellsOf e ≤ cs.length then k (.bar p (j + l * P.cellsOf e) (P.cellsOf e) (h - l)) else none) else none
      | _ => none
    | .t (.p (.ref sn cs)) => if mx.isNone ∧ P.cellsOf e = 1 ∧ sn = false then
          (bndK sl 0 lo fun l => bndK sl n hi fun h => if l ≤ h ∧ h ≤ n ∧ n = cs.length then k (.v (.sl sn false 1 ((cs.drop l).take (h - l)))) else none) else none
    | _ => none
  | _ => none
def elemsK (P : Program) (sl : List S) (x : S) (k : Nat → List V → Option R) : Option R :=
  match x with
  | .bar p j sz len => match slAt sl p with
    | some (.opt _ cs) => if sz = 1 then (elemsS.T.pures ((cs.drop j).take len)).bind fun l => (if V.stabL l = true then k 1 l else none) else none
    | _ => none
  | x => match elemsS P sl x with | some (n, es) => k n es | none => none
def convK (P : Program) (src dst : TypeId) (sl : List S) (x : S) (k : S → Option R) : Option R :=
  match P.underlying src, P.underlying dst with
  | some (.slice e), some .string => match P.underlying e with
    | some (.int .u8) => elemsK P sl x fun _ es => (unbytes es).bind fun l => k (.v (.str l))
    | _ => none
  | _, _ => match conv P src dst sl x with | some u => k u | none => none
def tkVK0 (P : Program) (sl : List S) (x : Operand) (k : V → List S → Option R) : Option R :=
  match tk P sl x with
  | some (.p v, sl') => if v.stab then k v sl' else none
  | some (.own ty es, sl') => k (.sl false false (P.cellsOf ty) es) sl'
  | _ => none
def tkVK (P : Program) (t : TypeId) (sl : List S) (x : Operand) (k : V → List S → Option R) : Option R := tkVK0 P sl x fun v sl' => k (v.tag P t) sl'
def tkVsK (P : Program) (ty : Nat → TypeId) (sl : List S) : List (Nat × Operand) → (List (Nat × V) → List S → Option R) → Option R
  | [], k => k [] sl
  | (i, x) :: r, k => tkVK P (ty i) sl x fun v sl' => tkVsK P ty sl' r fun l sl'' => k ((i, v) :: l) sl''
def fillK (place : Nat → Option (Nat × Nat)) : List V → List (Nat × V) → (List V → Option R) → Option R
  | cs, [], k => k cs
  | cs, (i, v) :: r, k => match place i with
    | some (off, size) => if v.cells.length = size ∧ off + size ≤ cs.length then fillK place (splice cs off v.cells) r k else none
    | none => none
def buildK (P : Program) (t : TypeId) (parts : List (Nat × V)) (k : V → Option R) : Option R :=
  match zeroV P t, P.underlying t with
  | some (.agg z), some (.struct fs) => if fs.all fun f => (P.info? f.type).isSome then fillK (fun i => (fs[i]?).map fun f => (f.offset, P.cellsOf f.type)) z parts fun l => k (.agg l) else none
  | some (.agg z), some (.array n e) => if (P.info? e).isSome then fillK (fun i => some (i * P.cellsOf e, P.cellsOf e)) z parts fun l => k (.agg l) else none
  | _, _ => none
def setPartsK (sz : Nat) : List V → List (Nat × V) → (List V → Option R) → Option R
  | es, [], k => k es
  | es, (i, v) :: r, k => if i < es.length then (if v.cells.length = sz then setPartsK sz (es.set i v) r k else none) else none
def wellK (P : Program) (e : TypeId) : List V → Option R → Option R
  | [], k => k
  | v :: r, k => if wellEl P e v then wellK P e r k else none
def prepK (P : Program) (H : Hints) (f : FuncId) : List S → Nat → List Operand → (List S → Option R) → Option R
  | sl, _, [], k => k sl
  | sl, n, x :: r, k => match x with
    | .tmp t =>
      if H.mode f n = 2 then tkVK0 P sl (.tmp t) fun v sl' => onS (setD sl' t (.t (.p v))) fun sl'' => prepK P H f sl'' (n + 1) r k
      else if H.mode f n = 3 then match tkO P sl t with
        | some (y, sl') => onS (setD sl' t (.t y)) fun sl'' => prepK P H f sl'' (n + 1) r k
        | none => none
      else prepK P H f sl (n + 1) r k
    | _ => prepK P H f sl (n + 1) r k
def storeK (P : Program) (t : TypeId) (sl : List S) (p : Pl) (i j : Nat) (x : Operand) (k : List S → Option R) : Option R :=
  match slAt sl p with
  | some (.own ty es) => tkVK P t sl x fun v sl' => match slAt sl' p with
      | some (.own ty' es') => (es'[i]?).bind fun e =>
          if ty' = ty ∧ j + P.cellsOf t ≤ P.cellsOf ty ∧ aggT P t = some v.isAgg ∧ 0 < P.cellsOf t then (if v.cells.length = P.cellsOf t then (if v.cells.all V.one then
            onS (putN sl' p (.own ty (es'.set i (storeEl e j v.cells))) true) k else none) else none) else none
      | _ => none
  | some (.opt ty cs) =>
    if aggT P t = some true ∧ 0 < P.cellsOf t then match tk P sl x with
      | some (.p (.agg vs), sl') => match slAt sl' p with
        | some (.opt ty' cs') => if (Nat.ble 16 (P.cellsOf t) && Nat.beq (P.cellsOf ty') (P.cellsOf t) && Nat.beq j 0) = true then (if vs.length = P.cellsOf t ∧ cs'.length = P.cellsOf t then onS (putN sl' p (.opt ty' (vs.map .p)) true) k else none)
          else if vs.length = P.cellsOf t ∧ j + vs.length ≤ cs'.length then
            onS (putN sl' p (.opt ty' (cs'.take j ++ vs.map .p ++ cs'.drop (j + vs.length))) true) k else none
        | _ => none
      | _ => onS (storeAt P t sl p i j x) k
    else match (match x with | .tmp u => sl[u]? | _ => none) with
      | some (.bpt _ _ _) => onS (storeAt P t sl p i j x) k
      | some (.bsl _ _ _ _) => onS (storeAt P t sl p i j x) k
      | _ => if aggT P t = some false ∧ P.cellsOf t = 1 then match tkT P t sl x with
          | some (y, sl') => match slAt sl' p with
            | some (.opt ty' cs') => if y.oneC then (if j < cs'.length then onS (putN sl' p (.opt ty' (cs'.set j y)) true) k else none) else none
            | _ => none
          | none => none
        else none
  | _ => none
def srcMK (P : Program) (e u : TypeId) (sl : List S) (y : Operand) (k : Nat × List V → Option R) : Option R :=
  if noInt P u then (match srcA P sl y with | some p => k p | none => none) else match P.underlying u with
    | some (.int _) => match pv sl y, zeroV P e with
      | some (.int _ n), some z => if wellEl P e z = true ∧ 0 < P.cellsOf e then (if 0 ≤ n ∧ n ≤ 2147483648 then k (P.cellsOf e, List.replicate n.toNat z) else none) else none
      | _, _ => none
    | _ => none
def appendK (P : Program) (e u : TypeId) (sl : List S) (x y : Operand) (dst : Option Nat) (k : List S → Option R) : Option R :=
  srcMK P e u sl y fun (sz2, es2) =>
    if sz2 = P.cellsOf e ∨ es2 = [] then
      let fin (sl' : List S) (es : List V) : Option R :=
        if P.bytesOf e ≤ 65536 ∧ 0 < P.cellsOf e ∧ zeroOk P e then (if es.length + es2.length ≤ 2147483648 then onS (putD sl' dst (.t (.own e (es ++ es2)))) k else none) else none
      match x with
      | .const (.slice none 0 0) => fin sl []
      | .tmp t => match sl[t]? with
        | some (.t (.own ty es)) => if ty = e ∨ (es = [] ∧ P.cellsOf ty = 0) then fin ((killP ⟨t, []⟩ false sl).set t (.t .dead)) es else none
        | some (.bsl p off len ex) => match slAt sl p with
          | some (.own ty es) => if ty = e ∨ (es = [] ∧ P.cellsOf ty = 0) then match putN sl p (.p (.lenO es.length)) false with
              | some sl' => fin sl' ((es.drop off).take len)
              | none => none
            else none
          | _ => none
        | _ => onS (appendOp P e u sl x y dst) k
      | _ => none
    else none
def appendFK (P : Program) (e : TypeId) (sl : List S) (x y : Operand) (dst : Option Nat) (k : List S → Option R) : Option R :=
  match srcA P sl y with
  | some (sz2, es2) =>
    if sz2 = P.cellsOf e ∨ es2 = [] then
      match x with
      | .tmp t => match sl[t]? with
        | some (.t (.p (.sl false true sz es))) => if (sz = P.cellsOf e ∨ es = []) ∧ P.bytesOf e ≤ 65536 ∧ 0 < P.cellsOf e ∧ zeroOk P e then
            (if es.length + es2.length ≤ 2147483648 then onS (putD sl dst (.v (.sl false false (P.cellsOf e) (es ++ es2)))) k else none) else none
        | _ => none
      | _ => none
    else none
  | none => none
def copyK (P : Program) (e : TypeId) (sl : List S) (x y : Operand) (dst : Option Nat) (k : List S → Option R) : Option R :=
  match srcA P sl y with
  | some (sz2, es2) =>
    match rd sl x with
    | some (.bsl p off len ex) => match slAt sl p with
      | some (.own ty es) =>
        if sz2 = P.cellsOf ty ∧ P.cellsOf ty = P.cellsOf e ∧ 0 < P.cellsOf e then
          onS (putN sl p (.own ty (es.take off ++ es2.take (min len es2.length) ++ es.drop (off + min len es2.length))) true) fun sl' => onS (putD sl' dst (.v (.int .i64 (min len es2.length : Nat)))) k
        else none
      | _ => none
    | some (.bar p j 1 len) => match slAt sl p with
      | some (.opt ty cs) =>
        if sz2 = 1 ∧ P.cellsOf e = 1 then (if es2.all V.one then
          onS (putN sl p (.opt ty (cs.take j ++ (es2.take (min len es2.length)).map .p ++ cs.drop (j + min len es2.length))) true) fun sl' => onS (putD sl' dst (.v (.int .i64 (min len es2.length : Nat)))) k
        else none) else none
      | _ => none
    | _ => none
  | none => none
def backsK (sl : List S) : List Pass → List T → (List S → Option R) → Option R
  | [], [], k => k sl
  | ⟨.io _ _, some p, _⟩ :: ps, x :: xs, k => match slAt sl p with
    | some y => if y.likeB x then match putN sl p x true with
        | some sl' => backsK sl' ps xs k
        | none => none
      else none
    | none => none
  | ⟨.mv _, some p, _⟩ :: ps, _ :: xs, k => match putN sl p .dead false with
    | some sl' => backsK sl' ps xs k
    | none => none
  | ⟨.v _, none, _⟩ :: ps, _ :: xs, k => backsK sl ps xs k
  | _, _, _ => none
def callK (P : Program) (sp : Sp) (sl : List S) (f : FuncId) (ps : List Pass) (dst : Option Nat) (k : List S → Option R) : Option R :=
  if apartB ps && fitsB P f ps.length then match sp f (ps.map (·.arg)) with
    | some c => c R fun t outs => backsK sl ps outs fun sl2 => onS (putD sl2 dst (.t t)) k
    | none => none
  else none
def readAK (P : Program) (t : TypeId) (sl : List S) (m : Nat) (x : Operand) (k : Pass → Option R) : Option R :=
  match mvSlot m x with
  | some _ => match readA P t sl m x with | some a => k a | none => none
  | none => match rd sl x with
    | some (.bar p j sz len) => if sz = 1 then elemsK P sl (.bar p j 1 len) fun n es => k ⟨.v (.sl true false n es), none, some p.s⟩ else none
    | _ => match readA P t sl m x with | some a => k a | none => none
def readAllK (P : Program) (H : Hints) (f : FuncId) (sl : List S) : Nat → List Operand → (List Pass → Option R) → Option R
  | _, [], k => k []
  | i, x :: r, k => readAK P (ptype P f i) sl (H.mode f i) x fun a => readAllK P H f sl (i + 1) r fun l => k (a :: l)
def carryK (n : Nat) (u v c : V) (k : T → Option R) : Option R :=
  (V.int? .u64 u).bind fun x => (V.int? .u64 v).bind fun y => (V.int? .u64 c).bind fun z =>
    if n = 1 then (if 0 ≤ x ∧ 0 ≤ y ∧ 0 ≤ z ∧ z ≤ 1 then k (.tup [.p (.int .u64 (adc x y z)), .p (.int .u64 (adcC x y z))]) else none)
    else if n = 2 then (if 0 ≤ x ∧ 0 ≤ y ∧ y < 18446744073709551616 ∧ 0 ≤ z ∧ z ≤ 1 then k (.tup [.p (.int .u64 (sbb x y z)), .p (.int .u64 (sbbC x y z))]) else none)
    else none
def callOpK (P : Program) (sp : Sp) (H : Hints) (sl : List S) (f : FuncId) (args : List Operand) (more : List V) (dst : Option Nat) (k : List S → Option R) : Option R :=
  if H.same f && more.isEmpty then match args with
    | [x] => if H.nat f = 0 then match rd sl x with
      | some (.t (.p v)) => onS (putD sl dst (.v v)) k
      | some (.bpt p i j) => onS (putD sl dst (.bpt p i j)) k
      | _ => none
      else none
    | [x, y, z] => match rd sl x with
      | some (.t (.p u)) => match rd sl y with
        | some (.t (.p v)) => match rd sl z with
          | some (.t (.p c)) => carryK (H.nat f) u v c fun r => onS (putD sl dst (.t r)) k
          | _ => none
        | _ => none
      | _ => none
    | _ => none
  else prepK P H f sl 0 args fun sl1 => readAllK P H f sl1 0 args fun l => callK P sp sl1 f (l ++ more.map fun v => ⟨.v v, none, none⟩) dst k
def callMK (P : Program) (sp : Sp) (H : Hints) (sl : List S) (t : Nat) (name : String) (args : List Operand) (dst : Option Nat) (k : List S → Option R) : Option R :=
  match sl[t]? with
  | some (.bfc u p) => match methB P u name with
    | some f => prepK P H f sl 1 args fun sl1 => match sl1[t]?, slAt sl1 p.down, readAll P H f sl1 1 args with
        | some (.bfc u' p'), some (.opt ty cs), some l => if u' = u ∧ p' = p then callK P sp sl1 f (⟨.io (.opt ty cs) .pt, some p.down, none⟩ :: l) dst k else none
        | _, _, _ => none
    | none => none
  | _ => none
def K0 : Oracle := fun _ _ => none
def allZ (q : IntKind) : List T → Bool
  | [] => true
  | .p (.int k n) :: r => decide (k = q) && n == 0 && allZ q r
  | _ => false
theorem allZ_eq {q : IntKind} : ∀ {l : List T}, allZ q l = true → l = List.replicate l.length (.p (.int q 0))
  | [], _ => rfl
  | x :: l, h => by
    unfold allZ at h
    split at h
    · rename_i heq; cases heq
    · rename_i k n r heq
      cases heq
      simp only [Bool.and_eq_true, decide_eq_true_eq, beq_iff_eq] at h
      obtain ⟨⟨rfl, rfl⟩, h⟩ := h
      rw [List.length_cons, List.replicate_succ, ← allZ_eq h]
    · cases h
theorem tagTs_zero {P : Program} {q : IntKind} : ∀ (ts : List TypeId) (n : Nat), tagTs P ts (List.replicate n (.p (.int q 0))) = List.replicate n (.p (.int q 0))
  | [], n => by cases n <;> rfl
  | t :: ts, 0 => rfl
  | t :: ts, n + 1 => by
    simp only [List.replicate_succ, tagTs, tagTs_zero ts n]; rfl
def stepK (P : Program) (sp : Sp) (H : Hints) (me : FuncId) (sl : List S) (o : Oper) (k : List S → Option R) : Option R :=
  let put (s : S) : Option R := onS (putD sl o.dst s) k
  let plain : Option R := onS (stepA P K0 H me sl o) k
  match nilOp P o with
  | some y => onS (putD sl o.dst (.t y)) k
  | none => match o.op with
    | .pick c a b => pickKv sl c a b fun v => put (.v v)
    | .binOp op t x y _ => match rd sl x, rd sl y with
      | some a, some b => binK P op t sl a b fun v => put (.v v)
      | _, _ => none
    | .convert s d x => match P.underlying s, P.underlying d with
      | some .string, some (.slice e) => match P.underlying e, pv sl x with
        | some (.int .u8), some (.str l) => if P.cellsOf e = 1 then (if l.length ≤ 2147483648 then put (.t (.own e (bytesV l))) else none) else none
        | _, _ => none
      | some (.slice _), some (.slice _) => plain
      | _, _ => match rd sl x with
        | some a => convK P s d sl a put
        | none => none
    | .load t a => match rd sl a with
      | some (.bpt p i j) => match slAt sl p with
        | some (.opt _ cs) => match P.underlying t with
          | some (.array _ _) => if j + P.cellsOf t ≤ cs.length ∧ 0 < P.cellsOf t then (elemsS.T.pures ((cs.drop j).take (P.cellsOf t))).bind fun l => viewK P t (.agg l) fun u => put (.v u) else none
          | some .bool => (cs[j]?).bind fun x => x.val?.bind fun v => viewK P t v fun u => put (.v u)
          | some (.int _) => (cs[j]?).bind fun x => x.val?.bind fun v => viewK P t v fun u => put (.v u)
          | some .string => (cs[j]?).bind fun x => x.val?.bind fun v => viewK P t v fun u => put (.v u)
          | some (.pointer _) => (cs[j]?).bind fun x => x.np?.bind fun b => if b = true then put (.bpt p 0 0) else put (.v .nilp)
          | _ => plain
        | _ => loadK P t sl (.bpt p i j) put
      | some s => loadK P t sl s put
      | none => none
    | .indexAddr t x i => match rd sl x, pv sl i with
      | some s, some (.int _ n) => indexAddrK P t sl s n put
      | _, _ => none
    | .index t x i => match pv sl x, pv sl i with
      | some v, some (.int _ n) => indexK P t v n fun u => put (.v u)
      | _, _ => none
    | .field t x f => match pv sl x with
      | some v => fieldK P t v f fun u => put (.v u)
      | none => none
    | .slice t x lo hi mx => if mx.isSome && hi.isNone then none else match rd sl x with
      | some s => sliceK P t sl s lo hi mx put
      | none => none
    | .sliceToArrayPointer t x => match rd sl x with
      | some s => arrayAtK P t s put
      | none => none
    | .store t a x => match o.dst, rd sl a with
      | none, some (.bpt p i j) => storeK P t sl p i j x k
      | _, _ => none
    | .alloc t => match P.underlying t, zeroOf P t with
      | some (.array n e), some z => if Nat.ble 16 n = true then (match P.underlying e, kTs z.cells.toList with
          | some (.int q), some cs => if (allZ q cs && Nat.beq cs.length n) = true then put (.t (.opt t (List.replicate n (.p (.int q 0))))) else plain
          | _, _ => plain) else plain
      | _, _ => plain
    | .box t x => match tkT P t sl x with
      | some (.p (.agg vs), sl') => if aggT P t = some true then (if vs.length = P.cellsOf t ∧ vs.all V.one then onS (putD sl' o.dst (.t (.opt t (vs.map .p)))) k else none) else none
      | _ => plain
    | .build t parts => if (H.zo t && parts.toList.isEmpty) = true then plain else if (partI sl parts.toList).isSome = true then plain else tkVsK P (partTy P t) sl parts.toList fun l sl' => buildK P t l fun v => onS (putD sl' o.dst (.v v)) k
    | .buildSlice t len parts => match P.underlying t with
      | some (.slice e) => tkVsK P (partTy P t) sl parts.toList fun l sl' =>
          if len ≤ 65536 ∧ P.cellsOf e ≤ 256 ∧ 0 < P.cellsOf e then (if len = 0 then (if l.isEmpty then onS (putD sl' o.dst (.t (.own e []))) k else none)
            else match zeroV P e with
              | some z => if wellEl P e z then setPartsK (P.cellsOf e) (List.replicate len z) l fun es => wellK P e es (onS (putD sl' o.dst (.t (.own e es))) k) else none
              | none => none) else none
      | _ => none
    | .makeInterface t x => if isOptB sl x = true then plain else if concrete P t then tkVK P t sl x fun v sl' => onS (putD sl' o.dst (.v (.ifc t v))) k else none
    | .makeSlice t l c => match P.underlying t, pv sl l, pv sl c with
      | some (.slice e), some (.int .i64 l), some (.int .i64 c) => match zeroV P e with
        | some z => if P.bytesOf e ≤ 65536 ∧ wellEl P e z ∧ 0 < P.cellsOf e then (if 0 ≤ l ∧ l ≤ c ∧ c ≤ 2147483648 then put (.t (.own e (List.replicate l.toNat z))) else none) else none
        | none => none
      | _, _, _ => none
    | .call { callee := .builtin .append, args := args, argTypes := ts } => match args.toList, ts.toList with
      | [x, y], [t, u] => match P.underlying t with
        | some (.slice e) => if (H.moves me o.dst && noInt P u) = true then appendFK P e sl x y o.dst k else appendK P e u sl x y o.dst k
        | _ => none
      | _, _ => none
    | .call { callee := .builtin .copy, args := args, argTypes := ts } => match args.toList, ts.toList with
      | [x, y], [t, _] => match P.underlying t with
        | some (.slice e) => copyK P e sl x y o.dst k
        | _ => none
      | _, _ => none
    | .call { callee := .builtin .unsafeString, args := args, argTypes := ts } => match args.toList, ts.toList with
      | [x, n], [pt, _] => match rd sl x, pv sl n with
        | some (.bpt p 0 0), some (.int .i64 n) => match slAt sl p, P.underlying pt with
          | some (.own ty es), some (.pointer e) => if e = ty ∧ P.cellsOf ty = 1 then (if 0 < n ∧ n ≤ 9223372036854775807 ∧ n.toNat ≤ es.length then (unbytes (es.take n.toNat)).bind fun l =>
              onS (putN sl p (.p (.sl false false (P.cellsOf ty) es)) false) fun sl' => onS (putD sl' o.dst (.v (.str l))) k
            else none) else none
          | _, _ => none
        | _, _ => plain
      | _, _ => none
    | .call { callee := .value (.func f), args := args, argTypes := _ } => callOpK P sp H sl f args.toList [] o.dst k
    | .call { callee := .value (.tmp t), args := args, argTypes := _ } => match sl[t]? with
      | some (.t (.p (.fn _ f caps))) => callOpK P sp H sl f args.toList caps o.dst k
      | _ => none
    | .call { callee := .invoke (.tmp t) m, args := args, argTypes := _ } => callMK P sp H sl t m args.toList o.dst k
    | _ => plain
end
end Go.Proofs.Ytffofdfikmpanaa.A
namespace Go.Proofs.Ytffofdfikmpanaa.A
set_option linter.unusedVariables false
def reachL (sl : List S) (l : List Nat) : List Nat := l ++ l.flatMap fun i => match sl[i]? with | some s => s.roots | none => []
def htSlots : HT → List Nat
  | .z => []
  | .n p q l r => p.map (·.1) ++ q.map (·.1) ++ htSlots l ++ htSlots r
def S.isDead : S → Bool
  | .t .dead => true
  | _ => false
def hasExit (id : Nat) : Code → Bool
  | .exit j => j == id
  | .seq a b => hasExit id a || hasExit id b
  | .cond _ a b => hasExit id a || hasExit id b
  | .block _ b => hasExit id b
  | .loop b => hasExit id b
  | .rangeFunc _ _ a b => hasExit id a || hasExit id b
  | _ => false
def mayN : Code → Bool
  | .skip => true
  | .region _ _ _ => true
  | .seq a b => mayN a && mayN b
  | .cond _ a b => mayN a || mayN b
  | .block id b => mayN b || hasExit id b
  | .rangeFunc _ _ _ _ => true
  | _ => false
section
variable {R : Type}
def effX (P : Program) (H : Hints) (me : FuncId) (sl : List S) (o : Oper) : List Nat :=
  if (effB H sl o.op).isEmpty then [] else match o.op with
    | .load t _ => if aggT P t = some false then [] else effW P H sl o
    | .convert _ d _ => match P.underlying d with
      | some .string => []
      | _ => effW P H sl o
    | _ => effW P H sl o
theorem effX_eq {P : Program} {K : Oracle} {H : Hints} {me : FuncId} {sl s : List S} {o : Oper} (hs : stepA P K H me sl o = some s) : effX P H me sl o = effW P H sl o := by
  unfold effX
  split
  · rename_i h
    unfold effW
    split
    · rfl
    · exact (List.isEmpty_iff.1 h).symm
  · split
    · rename_i t a hop
      split
      · rename_i hm
        unfold effW
        rw [if_pos]
        unfold stepA at hs
        split at hs
        · rename_i hn; simp [hn]
        · split at hs
          · rename_i hl; simp [hl]
          · rename_i hl
            simp only [hop, eff] at hs
            repeat' split at hs
            all_goals first | (cases hs; done) | (rename_i hq _ _ _ _ _; simp [hm] at hq; done) | (rename_i hq _ _ _ _; simp [hm] at hq; done) | (simp_all; done)
      · rfl
    · rename_i t d x hop
      split
      · rename_i hm
        unfold effW
        rw [if_pos]
        unfold stepA at hs
        split at hs
        · rename_i hn; simp [hn]
        · split at hs
          · rename_i hl; simp [hl]
          · rename_i hl
            simp only [hop, eff, hm] at hs
            split at hs <;> simp_all
      · rfl
    · rfl
def evOps (P : Program) (sp : Sp) (H : Hints) (me : FuncId) (all : List Oper) (q : Bool) : List Oper → List S → (List S → Option R) → Option R
  | [], sl, k => k sl
  | o :: r, sl, k =>
    let after (sl' : List S) : Option R := onS (fixS P (pickK all o) sl') fun s => forceL s fun s => evOps P sp H me all q r s k
    let run (sl : List S) : Option R := if q && !((effB H sl o.op).all (all.flatMap fun o => o.dst.toList).contains || (effX P H me sl o).all (all.flatMap fun o => o.dst.toList).contains) then none else stepK P sp H me sl o after
    let skip (sl : List S) : Option R := onS (putD sl o.dst (.t (.tup []))) after
    match o.guard with
    | none => run sl
    | some (j, want) => match all[j]? with
      | some g => match g.dst with
        | some d => match sl[d]? with
          | some (.t (.p (.bool b))) => if b = want then run (sl.set d (.v (.bool want))) else skip (sl.set d (.v (.bool (!want))))
          | some (.t (.tup [])) => skip sl
          | _ => none
        | none => none
      | none => none
def leftD (P : Program) (h : HT) : List Oper → Option (List (Nat × Sc))
  | [] => some []
  | o :: r => match o.dst, leftD P h r with
    | some d, some l => if h.post.contains (d, false) then some l else match cdOf P o.type with
      | some c => some ((d, .t (.v c)) :: l)
      | none => none
    | none, some l => some l
    | _, none => none
def joinOk (h : HT) (ops : List Oper) (D : List (Nat × Sc)) (sl : List S) : Bool :=
  let ds := ops.flatMap fun o => o.dst.toList
  h.post.all (fun x => !x.2 && ds.contains x.1) && ds.all (fun d => (D.map (·.1)).contains d || (h.post.contains (d, false) && (match sl[d]? with | some s => s.isDead | none => false))) &&
    sl.all (fun s => s.roots.all fun k => !ds.contains k)
def madeT (ops : List Oper) : Nat → Operand → Bool
  | 0, _ => false
  | n + 1, .tmp a => match ops.find? (fun o => o.dst == some a) with
    | some o => match o.op with
      | .fieldAddr _ x _ => madeT ops n x
      | .nilCheck x => madeT ops n x
      | .move x => madeT ops n x
      | .indexAddr _ x _ => madeT ops n x
      | _ => true
    | none => false
  | _ + 1, _ => true
def pureCalls (P : Program) (H : Hints) (ops : List Oper) : Bool := ops.all fun o => match o.op with
  | .store _ a _ => madeT ops 12 a
  | .call { callee := .value (.func f), args := args, argTypes := _ } => match P.funcs[f]? with
    | some fn => (fn.params.toList.all fun t => match P.underlying t with | some (.pointer _) => false | _ => true) && (List.range args.size).all fun k => H.mode f k = 0 || H.mode f k = 2
    | none => true
  | .call { callee := .value _, args := _, argTypes := _ } => false
  | .call { callee := .invoke _ _, args := _, argTypes := _ } => false
  | _ => true
def forceNat (n : Nat) (k : Nat → Option R) : Option R := match n with | 0 => k 0 | m + 1 => k (m + 1)
def forceNs : List Nat → (List Nat → Option R) → Option R
  | [], k => k []
  | a :: r, k => forceNat a fun a => forceNs r fun r => k (a :: r)
def forceRs : List Rec → (List Rec → Option R) → Option R
  | [], k => k []
  | a :: r, k => forceRs r fun r => k (a :: r)
theorem forceNat_eq (n : Nat) (k : Nat → Option R) : forceNat n k = k n := by cases n <;> rfl
theorem forceNs_eq : ∀ (l : List Nat) (k : List Nat → Option R), forceNs l k = k l
  | [], k => rfl
  | a :: r, k => by simp only [forceNs, forceNat_eq, forceNs_eq r]
theorem forceRs_eq : ∀ (l : List Rec) (k : List Rec → Option R), forceRs l k = k l
  | [], k => rfl
  | a :: r, k => by simp only [forceRs, forceRs_eq r]
def forcePs : List (Nat × Nat) → (List (Nat × Nat) → Option R) → Option R
  | [], k => k []
  | a :: r, k => forceNat a.1 fun x => forceNat a.2 fun y => forcePs r fun r => k ((x, y) :: r)
theorem forcePs_eq : ∀ (l : List (Nat × Nat)) (k : List (Nat × Nat) → Option R), forcePs l k = k l
  | [], k => rfl
  | a :: r, k => by simp only [forcePs, forceNat_eq, forcePs_eq r]
def evR (P : Program) (sp : Sp) (H : Hints) (me : FuncId) (all : List Oper) (q : Bool) : List Nat → List Rec → List S → (List Rec → List S → Option R) → Option R
  | [], acc, sl, k => forceRs acc fun acc => k acc sl
  | i :: r, acc, sl, k => match all[i]? with
    | some o =>
      let run (sl : List S) : Option R := if closedB sl (readsA all sl o) && (effX P H me sl o).all (readsA all sl o).contains && (!q || (effX P H me sl o).all (all.flatMap fun o => o.dst.toList).contains) then
          stepK P sp H me sl o fun sl' => forceL sl' fun sl' => forceNs (readsA all sl o ++ o.dst.toList) fun fp => forceNs (o.dst.toList ++ effX P H me sl o) fun wr => evR P sp H me all q r (acc ++ [⟨fp, wr⟩]) sl' k
        else none
      let skip (sl : List S) : Option R := onS (putD sl o.dst (.t (.tup []))) fun sl' => forceNs (guardS all o ++ o.dst.toList) fun fp => evR P sp H me all q r (acc ++ [⟨fp, o.dst.toList⟩]) sl' k
      match o.guard with
      | none => run sl
      | some (j, want) => match all[j]? with
        | some g => match g.dst with
          | some d => match sl[d]? with
            | some (.t (.p (.bool b))) => if b = want then run (sl.set d (.v (.bool want))) else skip (sl.set d (.v (.bool (!want))))
            | some (.t (.tup [])) => skip sl
            | _ => none
          | none => none
        | none => none
    | none => none
def evRegion (P : Program) (sp : Sp) (H : Hints) (me : FuncId) (h : HT) (ops : List Oper) (draw : Bool) (sl : List S) (k : List S → Option R) : Option R :=
  if draw then (match freeP ops with
    | some ps => forcePs ps fun ps =>
      let plain : Option R := evR P sp H me ops false (List.range ops.length) [] sl fun recs s => if apartR recs ps then onS (fixS P h.post s) k else none
      if ops.any (fun o => o.guard.isSome) then match leftD P h ops with
        | some D => if pureCalls P H ops && joinOk h ops D sl then (evR P sp H me ops true (List.range ops.length) [] sl fun recs s => if apartR recs ps then (match fixS P h.post s with | some s' => Ss.get D s' | none => none) else none).bind fun y => k (Ss.put D y sl)
          else plain
        | none => plain
      else plain
    | none => none)
  else if ops.any (fun o => o.guard.isSome) then match leftD P h ops with
    | some D => if pureCalls P H ops && joinOk h ops D sl then (evOps P sp H me ops true ops sl fun s => match fixS P h.post s with | some s' => Ss.get D s' | none => none).bind fun y => k (Ss.put D y sl)
      else evOps P sp H me ops false ops sl fun s => onS (fixS P h.post s) k
    | none => evOps P sp H me ops false ops sl fun s => onS (fixS P h.post s) k
  else evOps P sp H me ops false ops sl fun s => onS (fixS P h.post s) k
def stateD (ho : Ho) (Rc kill : List Nat) (sl : List S) : Option (List (Nat × Sc)) :=
  go 0 sl
where
  go : Nat → List S → Option (List (Nat × Sc))
    | _, [] => some []
    | i, s :: r => match go (i + 1) r with
      | some l => if s.isDead || kill.contains i then some l else if Rc.contains i then match s.sc ho i with
          | some c => some ((i, c) :: l)
          | none => none
        else some l
      | none => none
def clB (Rc : List Nat) (sl : List S) : Bool := Rc.all fun i => match sl[i]? with
  | some s => s.roots.all Rc.contains
  | none => true
def sameB (D : List Nat) (Rc kill : List Nat) (a b : List S) : Bool :=
  (List.range a.length).all fun i => D.contains i || (match a[i]?, b[i]? with
    | some s, some s' => if s.isDead || kill.contains i then s'.isDead else !Rc.contains i && s.roots.all fun k => !Rc.contains k
    | _, _ => false)
def itemK : List Cd → Nat → List V → (List V → Option R) → Option R
  | [], i, x, k => if x.length = i then k [] else none
  | c :: cs, i, x, k => (x[i]?).bind fun v => (c.get v).bind fun y => itemK cs (i + 1) x fun l => k (c.v y :: l)
def rfStartK (P : Program) (H : Hints) (g : Operand) (s : List S) (k : FuncId → List (List V) → List S → Bool → Option R) : Option R :=
  match pv s g with
  | some (.fn _ f caps) => if fitsB P f (1 + caps.length) then match H.iter f caps with
      | some items => k f items s false
      | none => none
    else none
  | _ => match tk P s g with
    | some (.clo f x, s1) => if (fitsB P f 2 && s1.all S.still) = true then match H.iterO f x with
        | some items => k f items s1 true
        | none => none
      else none
    | _ => none
def fixSK (P : Program) : List (Nat × Bool) → List S → (List S → Option R) → Option R
  | [], s, k => k s
  | (d, false) :: r, s, k => onS (setD s d (.t .dead)) fun s' => fixSK P r s' k
  | (d, true) :: r, s, k => match s[d]? with
    | some (.bar p j sz len) => if sz = 1 then (match slAt s p with
      | some (.opt _ cs) => (elemsS.T.pures cs).bind fun l => (if V.stabL l = true then onS (putN s p (.p (.ref false l)) false) fun s' => onS (setD s' d (.t (.p (V.noEx (.sl false false 1 ((l.drop j).take len)))))) fun s'' => fixSK P r s'' k else none)
      | _ => none) else none
    | _ => match tkV P s (.tmp d) with
      | some (v, s') => onS (setD s' d (.t (.p v.noEx))) fun s'' => fixSK P r s'' k
      | none => none
def unK (f : List S → (Ex → List S → Option R) → Option R) (k : Ex → List S → Option R) : Nat → List S → Option R
  | 0, _ => none
  | n + 1, s => forceL s fun s => f s fun e s' => match e with
    | .normal => unK f k n s'
    | e => k e s'
noncomputable def ev (P : Program) (sp : Sp) (H : Hints) (ho : Ho) (me : FuncId) : Code → HT → List S → (R : Type) → (Ex → List S → Option R) → Option R
  | .skip, h, sl, R, k => onS (fixS P h.pre sl) fun s => onS (fixS P h.post s) (k .normal)
  | .region _ ops draw, h, sl, R, k => onS (fixS P h.pre sl) fun s => evRegion P sp H me h ops.toList draw s fun s => forceL s (k .normal)
  | .seq a b, h, sl, R, k => onS (fixS P h.pre sl) fun s => ev P sp H ho me a h.l s R fun e s' => match e with
    | .normal => ev P sp H ho me b h.r s' R fun e' s'' => match e' with
      | .normal => onS (fixS P h.post s'') (k .normal)
      | e' => k e' s''
    | e => k e s'
  | .cond c a b, h, sl, R, k => onS (fixS P h.pre sl) fun s => match pv s c with
    | some (.bool t) =>
      let k' (e : Ex) (s' : List S) : Option R := match e with
        | .normal => onS (fixS P h.post s') (k .normal)
        | e => k e s'
      if mayN a && mayN b then
        let Rc := reachL s (occ a ++ occ b ++ htSlots h)
        let kill := h.post.map (·.1)
        match stateD ho Rc kill s, fixS P h.post s with
        | some D, some base => if clB Rc s && sameB (D.map (·.1)) [] kill s base then
          let leaf (e : Ex) (s' : List S) : Option (Ss D ⊕ R) := match e with
            | .normal => onS (fixS P h.post s') fun s'' => if sameB (D.map (·.1)) Rc kill s s'' then (Ss.get D s'').map .inl else none
            | e => (k e s').map .inr
          (if t = true then ev P sp H ho me a h.l s (Ss D ⊕ R) leaf else ev P sp H ho me b h.r s (Ss D ⊕ R) leaf).bind fun x => match x with
            | .inl y => forceL (Ss.put D y base) (k .normal)
            | .inr r => some r
          else none
        | _, _ => none
      else if t = true then ev P sp H ho me a h.l s R k' else ev P sp H ho me b h.r s R k'
    | _ => none
  | .block id b, h, sl, R, k => onS (fixS P h.pre sl) fun s => ev P sp H ho me b h.l s R fun e s' => match e with
    | .normal => onS (fixS P h.post s') (k .normal)
    | .exit j => if j = id then onS (fixS P h.post s') (k .normal) else k (.exit j) s'
    | .ret => k .ret s'
  | .loop b, h, sl, R, k => onS (fixS P h.pre sl) fun s => if Nat.ble 1 (H.un me) = true then unK (fun s k => ev P sp H ho me b h.l s R k) k (H.un me) s else
      let Rc := reachL s (occ b ++ htSlots h.l)
      match stateD ho Rc [] s with
      | some D => match Ss.get D s with
        | some y0 => if clB Rc s then loopO (fun y => forceL (Ss.put D y s) fun s0 => ev P sp H ho me b h.l s0 (Ss D ⊕ R) fun e s' => match e with
            | .normal => if sameB (D.map (·.1)) Rc [] s s' then (Ss.get D s').map .inl else none
            | e => (k e s').map .inr) y0 else none
        | none => none
      | none => none
  | .rangeFunc g ps x b, h, sl, R, k => onS (fixS P h.pre sl) fun s => onS (fixS P (rfKill ps.toList x b) s) fun s => rfStartK P H g s fun f items s0 chk =>
        let Rc := reachL s0 (occ (.rangeFunc g ps x b) ++ htSlots h.l ++ htSlots h.r)
        match stateD ho Rc [] s0 with
        | some D => match Ss.get D s0 with
          | some y0 => if clB Rc s0 then loopO (fun (z : List (List V) × Ss D) => match z.1 with
              | [] => forceL (Ss.put D z.2 s0) fun s1 => (onS (fixS P h.post s1) (k .normal)).map .inr
              | xi :: its => forceL (Ss.put D z.2 s0) fun s1 => itemK (ho.item f) 0 xi fun vs => onS (setPs ps.toList vs s1) fun s2 => forceL s2 fun s2 =>
                  ev P sp H ho me x h.l s2 ((List (List V) × Ss D) ⊕ R) fun e s3 => match e with
                  | .normal => ev P sp H ho me b h.r s3 ((List (List V) × Ss D) ⊕ R) fun e' s4 => onS (fixS P (rfKill ps.toList x b) s4) fun s5 => if (!chk || s5.all S.still) = true then match e' with
                    | .normal => if sameB (D.map (·.1)) Rc [] s0 s5 then (Ss.get D s5).map fun y => .inl (its, y) else none
                    | e' => (k e' s5).map .inr
                    else none
                  | _ => none) (items, y0) else none
          | none => none
        | none => none
  | .exit id, h, sl, R, k => onS (fixS P h.pre sl) (k (.exit id))
  | .ret, h, sl, R, k => fixSK P h.pre sl (k .ret)
  | _, _, _, _, _ => none
def retK (P : Program) (n : Nat) (sl : List S) (r : ResultVar) (k : T → List S → Option R) : Option R :=
  match r with
  | .tmp t => match sl[t]? with
    | some (.t (.p v)) => if v.stab then k (.p v) sl else none
    | _ => match retT P n sl r with | some (x, sl') => k x sl' | none => none
  | .cell t ty => match sl[t]? with
    | some (.t (.opt ty' cs)) => if aggT P ty = some true then (match P.underlying ty with
        | some (.array n' _) => if Nat.ble 16 n' = true then (elemsS.T.pures cs).bind fun l => (if P.cellsOf ty = l.length ∧ 0 < P.cellsOf ty then (if V.stabL l = true then k (.p (.agg l)) sl else none) else none) else if P.cellsOf ty = cs.length ∧ 0 < cs.length then (if T.stabL cs ∧ cs.any T.isSelf = false then (elemsS.T.pures cs).bind fun l => k (.p (.agg l)) sl else none) else none
        | _ => match retT P n sl r with | some (x, sl') => k x sl' | none => none)
      else match retT P n sl r with | some (x, sl') => k x sl' | none => none
    | _ => match retT P n sl r with | some (x, sl') => k x sl' | none => none
def retAllK (P : Program) (n : Nat) : List S → List ResultVar → (List T → List S → Option R) → Option R
  | sl, [], k => k [] sl
  | sl, v :: r, k => retK P n sl v fun x sl' => retAllK P n sl' r fun xs sl'' => k (x :: xs) sl''
def outsK : List S → (List T → Option R) → Option R
  | [], k => k []
  | .t .dead :: r, k => outsK r fun l => k (.dead :: l)
  | .t x :: r, k => if x.stab then outsK r fun l => k (x :: l) else none
  | _ :: _, _ => none
noncomputable def evF (P : Program) (sp : Sp) (H : Hints) (ho : Ho) (f : FuncId) (args : List Arg) (R : Type) (k : T → List T → Option R) : Option R :=
  match P.funcs[f]? with
  | some fn => match fn.body with
    | some c => if args.length ≤ fn.ntmps ∧ codeOk fn.ntmps c ∧ resOk fn.ntmps fn.results.toList ∧ (H.ht f).ok fn.ntmps then
        ev P sp H (ho.on f) f c (H.ht f) (frame fn.ntmps args) R fun e s => match e with
          | .exit _ => none
          | _ => retAllK P fn.ntmps s fn.results.toList fun rs s' => outsK (s'.drop fn.ntmps) fun outs => k (oneT rs) outs
      else none
    | none => none
  | none => none
end
end Go.Proofs.Ytffofdfikmpanaa.A
namespace Go.Proofs.Ytffofdfikmpanaa.A
set_option linter.unusedVariables false
set_option linter.unusedSimpArgs false
section
variable {P : Program} {R : Type} {r : R} {sl : List S}
theorem onS_ok {x : Option (List S)} {k : List S → Option R} (h : onS x k = some r) : ∃ s, x = some s ∧ k s = some r := by
  unfold onS at h
  split at h
  · exact ⟨_, rfl, h⟩
  · cases h
theorem ite_ok {c : Prop} [Decidable c] {x : Option R} (h : (if c then x else none) = some r) : c ∧ x = some r := by
  split at h
  · exact ⟨by assumption, h⟩
  · cases h
theorem binK_ok {op : BinOp} {t : TypeId} {x y : S} {k : V → Option R} (h : binK P op t sl x y k = some r) : ∃ v, bin P op t sl x y = some v ∧ k v = some r := by
  unfold binK at h
  split at h
  · rename_i kd a kd' b
    simp only [bin]
    split at h
    · split at h
      · cases h
      · rename_i hb; exact ⟨_, by simp [binInt, hb], h⟩
    · split at h
      · cases h
      · rename_i hb; exact ⟨_, by simp [binInt, hb], h⟩
    · split at h
      · cases h
      · rename_i hk
        split at h
        · cases h
        · rename_i hb; exact ⟨_, by simp at hk; simp [binInt, hk, hb], h⟩
    · split at h
      · cases h
      · rename_i hk
        split at h
        · cases h
        · rename_i hb; exact ⟨_, by simp at hk; simp [binInt, hk, hb], h⟩
    · split at h
      · rename_i v hv; exact ⟨v, hv, h⟩
      · cases h
  · rename_i a b
    simp only [bin]
    split at h
    · obtain ⟨hc, hk⟩ := ite_ok h
      exact ⟨_, by simp [binStr, hc], hk⟩
    · split at h
      · rename_i v hv; exact ⟨v, hv, h⟩
      · cases h
  · rename_i la lb
    split at h
    · rename_i n e ht
      split at h
      · rename_i q he
        obtain ⟨hc, h⟩ := ite_ok h
        rw [Option.bind_eq_some_iff] at h
        obtain ⟨x, hx, h⟩ := h
        rw [Option.bind_eq_some_iff] at h
        obtain ⟨y, hy, h⟩ := h
        have hs : sameArr P t la lb = some (x == y) := by simp [sameArr, ht, he, hc, hx, hy]
        split at h
        · exact ⟨_, by simp only [bin, hs], h⟩
        · exact ⟨_, by simp only [bin, hs], h⟩
        · cases h
      · cases h
    · cases h
  · split at h
    · rename_i v hv; exact ⟨v, hv, h⟩
    · cases h
theorem pickK_look {c a b : Operand} {k : V → Option R} (h : pickKv sl c a b k = some r) : ∃ v, lookA P sl (.pick c a b) = some (.v v) ∧ k v = some r := by
  unfold pickKv at h
  simp only [lookA]
  split at h
  · rename_i t hc
    rw [hc]
    split at h
    · rename_i x y ha hb
      refine ⟨_, ?_, h⟩
      cases t <;> simp [ha, hb]
    · rename_i kd x kd' y ha hb
      split at h
      · rename_i hk
        subst hk
        refine ⟨_, ?_, h⟩
        cases t <;> simp [ha, hb]
      · cases h
    · split at h
      · rename_i ht
        split at h
        · rename_i v hv
          exact ⟨v, by simp [ht, hv], h⟩
        · cases h
      · rename_i ht
        split at h
        · rename_i v hv
          exact ⟨v, by simp [ht, hv], h⟩
        · cases h
  · cases h
theorem viewK_ok {t : TypeId} {v : V} {k : V → Option R} (h : viewK P t v k = some r) : k v = some r := by
  unfold viewK at h
  split at h
  · rw [Option.bind_eq_some_iff] at h
    obtain ⟨y, hy, hk⟩ := h
    rw [Cd.get_v hy]; exact hk
  · exact h
theorem loadK_ok {t : TypeId} {s : S} {k : S → Option R} (h : loadK P t sl s k = some r) : ∃ u, load P t sl s = some u ∧ k u = some r := by
  unfold loadK at h
  split at h
  · rename_i sn cs
    simp only [load]
    split at h
    · rename_i ha
      obtain ⟨hc, hk⟩ := ite_ok h
      exact ⟨_, by simp [ha, hc], viewK_ok hk⟩
    · rename_i ha
      rw [Option.bind_eq_some_iff] at h
      obtain ⟨v, hv, hk⟩ := h
      refine ⟨_, ?_, viewK_ok hk⟩
      simp only [ha]
      cases cs <;> simp at hv ⊢
      exact hv
    · cases h
  · rename_i p i j
    split at h
    · rename_i ty es hz
      rw [Option.bind_eq_some_iff] at h
      obtain ⟨e, he, h⟩ := h
      simp only [load, hz, he]
      split at h
      · rename_i ha
        split at h
        · rename_i hc
          obtain ⟨_, rfl, hp⟩ := hc
          obtain ⟨hl, hk⟩ := ite_ok (viewK_ok h)
          obtain ⟨hl, hag⟩ := hl
          refine ⟨.v e, ?_, hk⟩
          cases e <;> simp [V.isAgg] at hag
          rename_i l
          simp only [V.cells] at hl
          simp [ha, hp, hl, V.cells, List.take_of_length_le (Nat.le_of_eq hl)]
        · obtain ⟨hc, hk⟩ := ite_ok h
          exact ⟨_, by simp [ha, hc], viewK_ok hk⟩
      · rename_i ha
        rw [Option.bind_eq_some_iff] at h
        obtain ⟨v, hv, hk⟩ := h
        exact ⟨_, by simp [ha, hv], viewK_ok hk⟩
      · cases h
    · split at h
      · rename_i v hv; exact ⟨v, hv, h⟩
      · cases h
  · split at h
    · rename_i v hv; exact ⟨v, hv, h⟩
    · cases h
theorem indexAddrK_ok {t : TypeId} {s : S} {ix : Int} {k : S → Option R} (h : indexAddrK P t sl s ix k = some r) : ∃ u, indexAddr P t sl s ix = some u ∧ k u = some r := by
  unfold indexAddrK at h
  unfold indexAddr
  split at h
  · rename_i e hu
    rw [hu]; dsimp only
    split at h
    · rename_i p off len ex
      dsimp only
      split at h
      · rename_i ty es hz
        obtain ⟨h1, h⟩ := ite_ok h
        obtain ⟨h2, h⟩ := ite_ok h
        exact ⟨_, by simp [hz, h1, h2], h⟩
      · cases h
    · rename_i sn ex sz es
      dsimp only
      obtain ⟨h1, h⟩ := ite_ok h
      obtain ⟨h2, h⟩ := ite_ok h
      rw [Option.bind_eq_some_iff] at h
      obtain ⟨x, hx, hk⟩ := h
      exact ⟨_, by rw [if_pos ⟨h1.1, h1.2, h2⟩]; simp [hx], viewK_ok (k := fun x => k (.v (.ref sn x.cells))) hk⟩
    · rename_i p j sz len
      dsimp only
      obtain ⟨h1, h⟩ := ite_ok h
      obtain ⟨h2, h⟩ := ite_ok h
      exact ⟨_, by rw [if_pos ⟨h1.1, h1.2, h2.1, h2.2⟩], h⟩
    · cases h
  · rename_i n e hu
    rw [hu]; dsimp only
    obtain ⟨h1, h⟩ := ite_ok h
    obtain ⟨h2, h⟩ := ite_ok h
    rw [if_pos ⟨h2.1, h2.2, h1⟩]
    split at h
    · rename_i p i j
      dsimp only
      split at h
      · rename_i ty es hz
        obtain ⟨h3, h⟩ := ite_ok h
        exact ⟨_, by simp [hz, h3], h⟩
      · rename_i ty cs hz
        obtain ⟨h3, h⟩ := ite_ok h
        exact ⟨_, by simp [hz, h3], h⟩
      · cases h
    · rename_i sn cs
      dsimp only
      obtain ⟨h3, h⟩ := ite_ok h
      exact ⟨_, by simp [h3], h⟩
    · cases h
  · cases h
theorem indexK_ok {t : TypeId} {x : V} {ix : Int} {k : V → Option R} (h : indexK P t x ix k = some r) : ∃ u, indexOp P t x ix = some u ∧ k u = some r := by
  unfold indexK at h
  unfold indexOp
  split at h
  · rename_i s hu
    rw [hu]; dsimp only
    obtain ⟨h1, h⟩ := ite_ok h
    rw [Option.bind_eq_some_iff] at h
    obtain ⟨b, hb, hk⟩ := h
    exact ⟨_, by simp [h1, hb], hk⟩
  · rename_i n e cs hu
    rw [hu]; dsimp only
    obtain ⟨h1, h⟩ := ite_ok h
    split at h
    · rename_i q he
      split at h
      · obtain ⟨hc, h⟩ := ite_ok h
        rw [Option.bind_eq_some_iff] at h
        obtain ⟨v, hv, hk⟩ := h
        exact ⟨_, by simp [h1, partV, aggT, he, hc, hv], viewK_ok hk⟩
      · obtain ⟨hc, h⟩ := ite_ok h
        rw [Option.bind_eq_some_iff] at h
        obtain ⟨x, hx, h⟩ := h
        rw [Option.bind_eq_some_iff] at h
        obtain ⟨b, hb, hk⟩ := h
        obtain ⟨hl, hx⟩ := intsOf_spec hx
        have hlt : ix.toNat < n := by omega
        have h2 := hx _ hlt
        have hg : x.getD ix.toNat 0 = b := by simp [List.getD, hb]
        rw [hg] at h2
        exact ⟨_, by simp [h1, partV, aggT, he, hc, h2], hk⟩
    · rw [Option.bind_eq_some_iff] at h
      obtain ⟨v, hv, hk⟩ := h
      exact ⟨_, by simp [h1, hv], viewK_ok hk⟩
  · cases h
theorem arrayAtK_ok {t : TypeId} {s : S} {k : S → Option R} (h : arrayAtK P t s k = some r) : ∃ u, arrayAt P t s = some u ∧ k u = some r := by
  unfold arrayAtK at h
  split at h
  · rename_i n e sn ex sz es ht
    split at h
    · rename_i q he
      obtain ⟨h1, h⟩ := ite_ok h
      obtain ⟨h2, h⟩ := ite_ok h
      rw [Option.bind_eq_some_iff] at h
      obtain ⟨x, hx, hk⟩ := h
      have hsz : 0 < sz := by omega
      refine ⟨.v (.ref sn ((es.take n).flatMap V.cells)), by simp only [arrayAt, ht]; rw [if_pos ⟨h1.1, hsz, h1.2.2, h2⟩], ?_⟩
      have h3 := intsOf_arrV hx
      have h4 : es.take n = arrV q x 0 n := by
        conv => lhs; rw [h3]
        rw [List.take_append_of_le_length (by rw [arrV_length]; omega), List.take_of_length_le (by rw [arrV_length]; omega)]
      have h5 : ∀ i m, (arrV q x i m).flatMap V.cells = arrV q x i m := by
        intro i m
        induction m generalizing i with
        | zero => rfl
        | succ m ih => simp [arrV, List.flatMap_cons, V.cells, ih]
      rw [h4, h5]; exact hk
    · split at h
      · exact ⟨_, by assumption, h⟩
      · cases h
  · rename_i n e p j sz len ht
    obtain ⟨h1, h⟩ := ite_ok h
    exact ⟨_, by simp only [arrayAt, ht]; rw [if_pos h1], h⟩
  · cases h
theorem fieldK_ok {t : TypeId} {x : V} {f : Nat} {k : V → Option R} (h : fieldK P t x f k = some r) : ∃ u, fieldOp P t x f = some u ∧ k u = some r := by
  unfold fieldK at h
  unfold fieldOp
  split at h
  · rename_i fs cs hu
    rw [hu]; dsimp only
    split at h
    · rename_i fd hf
      rw [hf]; dsimp only
      simp only [partV]
      split at h
      · rename_i ha
        obtain ⟨h1, h⟩ := ite_ok h
        exact ⟨_, by simp [ha, h1], h⟩
      · rename_i ha
        rw [Option.bind_eq_some_iff] at h
        obtain ⟨v, hv, hk⟩ := h
        exact ⟨_, by simp [ha, hv], viewK_ok hk⟩
      · cases h
    · cases h
  · cases h
theorem bndK_ok {d : Nat} {x : Option Operand} {k : Nat → Option R} (h : bndK sl d x k = some r) : ∃ n, bnd sl d x = some n ∧ k n = some r := by
  unfold bndK at h
  unfold bnd
  split at h
  · exact ⟨d, rfl, h⟩
  · dsimp only
    split at h
    · rename_i kd n hp
      obtain ⟨h1, h⟩ := ite_ok h
      exact ⟨_, by simp [hp, h1], h⟩
    · cases h
theorem sliceK_ok {t : TypeId} {s : S} {lo hi mx : Option Operand} {k : S → Option R} (h : sliceK P t sl s lo hi mx k = some r) : ∃ u, sliceOp P t sl s lo hi mx = some u ∧ k u = some r := by
  unfold sliceK at h
  split at h
  · rename_i hu
    split at h
    · rename_i x
      split at h
      · cases h
      · rename_i hm
        obtain ⟨l, hl, h⟩ := bndK_ok h
        obtain ⟨m, hm', h⟩ := bndK_ok h
        obtain ⟨hc, hk⟩ := ite_ok h
        exact ⟨_, by simp [sliceOp, hu, hm, hl, hm', hc], hk⟩
    · cases h
  · rename_i e hu
    split at h
    · rename_i sn sz es
      split at h
      · rename_i hm
        obtain ⟨hc, h⟩ := ite_ok h
        obtain ⟨l, hl, h⟩ := bndK_ok h
        obtain ⟨m, hm', h⟩ := bndK_ok h
        obtain ⟨m2, hm2, h⟩ := bndK_ok h
        obtain ⟨hc2, hk⟩ := ite_ok h
        obtain ⟨h1, rfl, h3⟩ := hc2
        exact ⟨_, by simp only [sliceOp, hu, hl, hm', hm2]; rw [if_pos ⟨h1, Nat.le_refl _, h3, .inl hc.1, hc.2⟩], by simpa [hm] using hk⟩
      · rename_i hm
        obtain ⟨hc, h⟩ := ite_ok h
        obtain ⟨l, hl, h⟩ := bndK_ok h
        obtain ⟨m, hm', h⟩ := bndK_ok h
        obtain ⟨hc2, hk⟩ := ite_ok h
        have hmx : mx = none := by cases mx <;> simp_all
        subst hmx
        have hb : bnd sl es.length none = some es.length := rfl
        exact ⟨_, by simp only [sliceOp, hu, hl, hm', hb]; rw [if_pos ⟨hc2.1, hc2.2, Nat.le_refl _, .inl hc.1, hc.2⟩]; simp, hk⟩
    · rename_i p off len
      split at h
      · rename_i ty es hz
        split at h
        · rename_i hm
          obtain ⟨hc, h⟩ := ite_ok h
          obtain ⟨l, hl, h⟩ := bndK_ok h
          obtain ⟨m, hm', h⟩ := bndK_ok h
          obtain ⟨m2, hm2, h⟩ := bndK_ok h
          obtain ⟨hc2, hk⟩ := ite_ok h
          obtain ⟨h1, rfl, h3⟩ := hc2
          exact ⟨_, by simp only [sliceOp, hu, hz, hl, hm', hm2]; rw [if_pos ⟨h1, Nat.le_refl _, h3, .inl hc.1, hc.2⟩], by simpa [hm] using hk⟩
        · rename_i hm
          obtain ⟨hc, h⟩ := ite_ok h
          obtain ⟨l, hl, h⟩ := bndK_ok h
          obtain ⟨m, hm', h⟩ := bndK_ok h
          obtain ⟨hc2, hk⟩ := ite_ok h
          have hmx : mx = none := by cases mx <;> simp_all
          subst hmx
          have hb : bnd sl len none = some len := rfl
          exact ⟨_, by simp only [sliceOp, hu, hz, hl, hm', hb]; rw [if_pos ⟨hc2.1, hc2.2, Nat.le_refl _, .inl hc.1, hc.2⟩]; simp, hk⟩
      · cases h
    · rename_i p j sz len
      obtain ⟨hc, h⟩ := ite_ok h
      obtain ⟨l, hl, h⟩ := bndK_ok h
      obtain ⟨m, hm', h⟩ := bndK_ok h
      obtain ⟨hc2, hk⟩ := ite_ok h
      exact ⟨_, by simp only [sliceOp, hu, hl, hm']; rw [if_pos ⟨hc.1, hc2.1, hc2.2, hc.2.1, hc.2.2⟩], hk⟩
    · split at h
      · rename_i v hv; exact ⟨v, hv, h⟩
      · cases h
  · rename_i n e hu
    split at h
    · rename_i p i j
      split at h
      · rename_i ty cs hz
        obtain ⟨hc, h⟩ := ite_ok h
        obtain ⟨l, hl, h⟩ := bndK_ok h
        obtain ⟨m, hm', h⟩ := bndK_ok h
        obtain ⟨hc2, hk⟩ := ite_ok h
        exact ⟨_, by simp only [sliceOp, hu, hz, hl, hm']; rw [if_pos ⟨hc.1, hc2.1, hc2.2.1, hc2.2.2, hc.2⟩], hk⟩
      · cases h
    · rename_i sn cs
      obtain ⟨hc, h⟩ := ite_ok h
      obtain ⟨l, hl, h⟩ := bndK_ok h
      obtain ⟨m, hm', h⟩ := bndK_ok h
      obtain ⟨hc2, hk⟩ := ite_ok h
      exact ⟨_, by simp only [sliceOp, hu, hl, hm']; rw [if_pos ⟨hc.1, hc2.1, hc2.2.1, hc2.2.2, hc.2.1, hc.2.2⟩], hk⟩
    · cases h
  · cases h
theorem elemsK_ok {x : S} {k : Nat → List V → Option R} (h : elemsK P sl x k = some r) : ∃ n es, elemsS P sl x = some (n, es) ∧ k n es = some r := by
  unfold elemsK at h
  split at h
  · rename_i p j sz len
    split at h
    · rename_i ty cs hz
      obtain ⟨hsz, h'⟩ := ite_ok h
      subst hsz
      obtain ⟨l, hl, h'⟩ := Option.bind_eq_some_iff.1 h'
      obtain ⟨hst, h'⟩ := ite_ok h'
      exact ⟨1, l, by simp only [elemsS, hz, if_true, hl, hst], h'⟩
    · cases h
  · split at h
    · rename_i n es he; exact ⟨n, es, he, h⟩
    · cases h
theorem convK_ok {s d : TypeId} {x : S} {k : S → Option R} (h : convK P s d sl x k = some r) : ∃ u, conv P s d sl x = some u ∧ k u = some r := by
  unfold convK at h
  split at h
  · rename_i e hs hd
    split at h
    · rename_i he
      obtain ⟨sz, es, hel, h⟩ := elemsK_ok h
      rw [Option.bind_eq_some_iff] at h
      obtain ⟨l, hl, hk⟩ := h
      exact ⟨_, by simp [conv, hs, hd, he, hel, hl], hk⟩
    · cases h
  · split at h
    · rename_i v hv; exact ⟨v, hv, h⟩
    · cases h
theorem tkVK0_ok {x : Operand} {k : V → List S → Option R} (h : tkVK0 P sl x k = some r) : ∃ v sl', tkV P sl x = some (v, sl') ∧ k v sl' = some r := by
  unfold tkVK0 at h
  simp only [tkV]
  split at h
  · rename_i v sl' ht
    obtain ⟨hc, hk⟩ := ite_ok h
    exact ⟨_, _, by simp [ht, hc], hk⟩
  · rename_i ty es sl' ht
    exact ⟨_, _, by simp [ht], h⟩
  · cases h
theorem tkVK_ok {t : TypeId} {x : Operand} {k : V → List S → Option R} (h : tkVK P t sl x k = some r) : ∃ v sl', tkVT P t sl x = some (v, sl') ∧ k v sl' = some r := by
  unfold tkVK at h
  obtain ⟨v, sl', h1, h2⟩ := tkVK0_ok h
  exact ⟨_, _, by simp [tkVT, h1], h2⟩
theorem tkVsK_ok {ty : Nat → TypeId} : ∀ {ps : List (Nat × Operand)} {sl : List S} {k : List (Nat × V) → List S → Option R}, tkVsK P ty sl ps k = some r → ∃ l sl', tkVs P ty sl ps = some (l, sl') ∧ k l sl' = some r
  | [], sl, k, h => ⟨[], sl, rfl, h⟩
  | (i, x) :: ps, sl, k, h => by
    simp only [tkVsK] at h
    obtain ⟨v, sl1, h1, h⟩ := tkVK_ok h
    obtain ⟨l, sl2, h2, hk⟩ := tkVsK_ok h
    exact ⟨_, _, by simp [tkVs, h1, h2], hk⟩
theorem fillK_ok {place : Nat → Option (Nat × Nat)} : ∀ {ps : List (Nat × V)} {cs : List V} {k : List V → Option R}, fillK place cs ps k = some r → ∃ l, fillV place cs ps = some l ∧ k l = some r
  | [], cs, k, h => ⟨cs, rfl, h⟩
  | (i, v) :: ps, cs, k, h => by
    simp only [fillK] at h
    split at h
    · rename_i off size hp
      obtain ⟨hc, h⟩ := ite_ok h
      obtain ⟨l, hl, hk⟩ := fillK_ok h
      exact ⟨l, by simp [fillV, hp, hc, hl], hk⟩
    · cases h
theorem buildK_ok {t : TypeId} {ps : List (Nat × V)} {k : V → Option R} (h : buildK P t ps k = some r) : ∃ v, buildOp P t ps = some v ∧ k v = some r := by
  unfold buildK at h
  split at h
  · rename_i z fs hz hu
    obtain ⟨hc, h⟩ := ite_ok h
    obtain ⟨l, hl, hk⟩ := fillK_ok h
    refine ⟨_, ?_, hk⟩
    simp only [buildOp, hz, hu]
    rw [if_pos hc, hl]; rfl
  · rename_i z n e hz hu
    obtain ⟨hc, h⟩ := ite_ok h
    obtain ⟨l, hl, hk⟩ := fillK_ok h
    refine ⟨_, ?_, hk⟩
    simp only [buildOp, hz, hu]
    rw [if_pos hc, hl]; rfl
  · cases h
theorem setPartsK_ok {sz : Nat} : ∀ {ps : List (Nat × V)} {es : List V} {k : List V → Option R}, setPartsK sz es ps k = some r → ∃ l, setParts sz es ps = some l ∧ k l = some r
  | [], es, k, h => ⟨es, rfl, h⟩
  | (i, v) :: ps, es, k, h => by
    simp only [setPartsK] at h
    obtain ⟨hc, h⟩ := ite_ok h
    obtain ⟨hc2, h⟩ := ite_ok h
    obtain ⟨l, hl, hk⟩ := setPartsK_ok h
    exact ⟨l, by simp [setParts, hc, hc2, hl], hk⟩
theorem wellK_ok {e : TypeId} : ∀ {es : List V} {k : Option R}, wellK P e es k = some r → es.all (wellEl P e) = true ∧ k = some r
  | [], k, h => ⟨rfl, h⟩
  | v :: es, k, h => by
    simp only [wellK] at h
    obtain ⟨hc, h⟩ := ite_ok h
    obtain ⟨h1, h2⟩ := wellK_ok h
    exact ⟨by simp only [List.all_cons, hc, h1, Bool.and_self], h2⟩
theorem prepK_ok {H : Hints} {f : FuncId} : ∀ {args : List Operand} {n : Nat} {sl : List S} {k : List S → Option R}, prepK P H f sl n args k = some r → ∃ sl', prepA P H f sl n args = some sl' ∧ k sl' = some r
  | [], n, sl, k, h => ⟨sl, rfl, h⟩
  | x :: args, n, sl, k, h => by
    simp only [prepK] at h
    simp only [prepA]
    cases x with
    | tmp t =>
      dsimp only at h ⊢
      split at h
      · rename_i h2
        rw [if_pos h2]
        obtain ⟨v, sl1, h3, h⟩ := tkVK0_ok h
        obtain ⟨sl2, h4, h⟩ := onS_ok h
        obtain ⟨sl3, h5, hk⟩ := prepK_ok h
        exact ⟨sl3, by simp [h3, h4, h5], hk⟩
      · rename_i h2
        rw [if_neg h2]
        split at h
        · rename_i h3
          rw [if_pos h3]
          split at h
          · rename_i y sl1 h4
            obtain ⟨sl2, h5, h⟩ := onS_ok h
            obtain ⟨sl3, h6, hk⟩ := prepK_ok h
            exact ⟨sl3, by simp [h4, h5, h6], hk⟩
          · cases h
        · rename_i h3
          rw [if_neg h3]
          exact prepK_ok h
    | _ => exact prepK_ok h
theorem storeK_ok {t : TypeId} {p : Pl} {i j : Nat} {x : Operand} {k : List S → Option R} (h : storeK P t sl p i j x k = some r) : ∃ s, storeAt P t sl p i j x = some s ∧ k s = some r := by
  unfold storeK at h
  split at h
  · rename_i ty es hz
    obtain ⟨v, sl1, h1, h⟩ := tkVK_ok h
    split at h
    · rename_i ty' es' hz'
      rw [Option.bind_eq_some_iff] at h
      obtain ⟨e, he, h⟩ := h
      obtain ⟨hc, h⟩ := ite_ok h
      obtain ⟨hc2, h⟩ := ite_ok h
      obtain ⟨hc3, h⟩ := ite_ok h
      obtain ⟨s, hs, hk⟩ := onS_ok h
      refine ⟨s, ?_, hk⟩
      simp only [storeAt, hz, h1, hz', he]
      rw [if_pos ⟨hc.1, hc2, hc.2.1, hc3, hc.2.2.1, hc.2.2.2⟩]; exact hs
    · cases h
  · rename_i ty cs hz
    split at h
    · rename_i ha
      split at h
      · rename_i vs sl1 h1
        split at h
        · rename_i ty' cs' hz'
          split at h
          · rename_i hw
            obtain ⟨hc, h⟩ := ite_ok h
            obtain ⟨s, hs, hk⟩ := onS_ok h
            refine ⟨s, ?_, hk⟩
            have hj : j = 0 := by simp only [Bool.and_eq_true] at hw; exact Nat.eq_of_beq_eq_true hw.2
            subst hj
            simp only [storeAt, hz]
            rw [if_pos ha, h1]
            simp only [hz']
            rw [if_pos ⟨hc.1, by omega⟩]
            have : cs'.take 0 ++ vs.map T.p ++ cs'.drop (0 + vs.length) = vs.map T.p := by
              rw [List.take_zero, List.nil_append, List.drop_of_length_le (by omega), List.append_nil]
            rw [this]; exact hs
          · obtain ⟨hc, h⟩ := ite_ok h
            obtain ⟨s, hs, hk⟩ := onS_ok h
            refine ⟨s, ?_, hk⟩
            simp only [storeAt, hz]
            rw [if_pos ha, h1]
            simp only [hz']
            rw [if_pos hc]; exact hs
        · cases h
      · exact onS_ok h
    · rename_i ha
      split at h
      · exact onS_ok h
      · exact onS_ok h
      · rename_i hn1 hn2
        obtain ⟨hc, h⟩ := ite_ok h
        split at h
        · rename_i y sl1 h1
          split at h
          · rename_i ty' cs' hz'
            obtain ⟨hc2, h⟩ := ite_ok h
            obtain ⟨hc3, h⟩ := ite_ok h
            obtain ⟨s, hs, hk⟩ := onS_ok h
            refine ⟨s, ?_, hk⟩
            have one : storeOne P t sl p j x = some s := by
              simp only [storeOne, h1, hz']
              rw [if_pos ⟨hc2, hc3⟩]; exact hs
            simp only [storeAt, hz]
            rw [if_neg ha, if_pos hc]
            split
            · rename_i q heq; exact absurd heq (by exact hn1 _ _ _)
            · rename_i q off len ex heq; exact absurd heq (by exact hn2 _ _ _ _)
            · exact one
          · cases h
        · cases h
  · cases h
theorem appendFK_ok {e : TypeId} {x y : Operand} {dst : Option Nat} {k : List S → Option R} (h : appendFK P e sl x y dst k = some r) : ∃ s, appendF P e sl x y dst = some s ∧ k s = some r := by
  unfold appendFK at h
  split at h
  · rename_i sz2 es2 hsrc
    obtain ⟨h1, h⟩ := ite_ok h
    split at h
    · rename_i t
      split at h
      · rename_i sz es hs
        obtain ⟨h2, h⟩ := ite_ok h
        obtain ⟨h3, h⟩ := ite_ok h
        obtain ⟨s, h4, hk⟩ := onS_ok h
        refine ⟨s, ?_, hk⟩
        unfold appendF
        simp only [hsrc, hs]
        rw [if_pos (h1.symm), if_pos ⟨⟨h2.1.symm, h2.2.2.1⟩, h3, h2.2⟩]
        exact h4
      · cases h
    · cases h
  · cases h
theorem srcMK_ok {e u : TypeId} {y : Operand} {k : Nat × List V → Option R} (h : srcMK P e u sl y k = some r) : ∃ p, srcM P e u sl y = some p ∧ k p = some r := by
  unfold srcMK at h
  unfold srcM
  split at h
  · rename_i hu
    rw [if_pos hu]
    split at h
    · rename_i p hp; exact ⟨p, hp, h⟩
    · cases h
  · rename_i hu
    rw [if_neg hu]
    split at h
    · rename_i kd hd
      rw [hd]; dsimp only
      split at h
      · rename_i kk n z h1 h2
        obtain ⟨h3, h⟩ := ite_ok h
        obtain ⟨h4, hk⟩ := ite_ok h
        exact ⟨_, by simp only [h1, h2]; rw [if_pos ⟨h4.1, h4.2, h3⟩], hk⟩
      · cases h
    · cases h
theorem appendK_ok {e u : TypeId} {x y : Operand} {dst : Option Nat} {k : List S → Option R} (h : appendK P e u sl x y dst k = some r) : ∃ s, appendOp P e u sl x y dst = some s ∧ k s = some r := by
  have whole := h
  unfold appendK at h
  obtain ⟨⟨sz2, es2⟩, hsrc, h⟩ := srcMK_ok h
  · obtain ⟨hc, h⟩ := ite_ok h
    have fin : ∀ {sl' : List S} {es : List V}, (if P.bytesOf e ≤ 65536 ∧ 0 < P.cellsOf e ∧ zeroOk P e = true then (if es.length + es2.length ≤ 2147483648 then onS (putD sl' dst (.t (.own e (es ++ es2)))) k else none) else none) = some r →
        ∃ s, (if es.length + es2.length ≤ 2147483648 ∧ P.bytesOf e ≤ 65536 ∧ 0 < P.cellsOf e ∧ zeroOk P e then putD sl' dst (.t (.own e (es ++ es2))) else none) = some s ∧ k s = some r := by
      intro sl' es h
      obtain ⟨h1, h⟩ := ite_ok h
      obtain ⟨h2, h⟩ := ite_ok h
      obtain ⟨s, hs, hk⟩ := onS_ok h
      exact ⟨s, by rw [if_pos ⟨h2, h1⟩]; exact hs, hk⟩
    have hc' : es2 = [] ∨ sz2 = P.cellsOf e := hc.symm
    simp only [appendOp, hsrc]
    rw [if_pos hc']
    dsimp only at h
    split at h
    · exact fin h
    · rename_i t
      try dsimp only
      split at h
      · rename_i ty es hs
        obtain ⟨hty, h⟩ := ite_ok h
        simp only [hs]
        rw [if_pos hty]
        exact fin h
      · rename_i p off len ex hs
        simp only [hs]
        split at h
        · rename_i ty es hz
          obtain ⟨hty, h⟩ := ite_ok h
          rw [hz]; dsimp only
          rw [if_pos hty]
          split at h
          · rename_i sl1 h1
            rw [h1]
            exact fin h
          · cases h
        · cases h
      · obtain ⟨s, hs, hk⟩ := onS_ok h
        refine ⟨s, ?_, hk⟩
        rw [← hs]
        simp only [appendOp, hsrc]
        (try rw [if_pos hc'])
    · cases h
theorem copyK_ok {e : TypeId} {x y : Operand} {dst : Option Nat} {k : List S → Option R} (h : copyK P e sl x y dst k = some r) : ∃ s, copyOp P e sl x y dst = some s ∧ k s = some r := by
  unfold copyK at h
  unfold copyOp
  split at h
  · rename_i sz2 es2 hsrc
    rw [hsrc]; (try dsimp only)
    split at h
    · rename_i p off len ex hr
      rw [hr]; (try dsimp only)
      split at h
      · rename_i ty es hz
        obtain ⟨hc, h⟩ := ite_ok h
        obtain ⟨s1, h1, h⟩ := onS_ok h
        obtain ⟨s, h2, hk⟩ := onS_ok h
        refine ⟨s, ?_, hk⟩
        rw [hz]; (try dsimp only)
        rw [if_pos ⟨.inr ⟨hc.1, hc.2.1⟩, hc.2.2⟩, h1]
        exact h2
      · cases h
    · rename_i p j len hr
      rw [hr]; (try dsimp only)
      split at h
      · rename_i ty cs hz
        obtain ⟨hc, h⟩ := ite_ok h
        obtain ⟨hc2, h⟩ := ite_ok h
        obtain ⟨s1, h1, h⟩ := onS_ok h
        obtain ⟨s, h2, hk⟩ := onS_ok h
        refine ⟨s, ?_, hk⟩
        show (match slAt sl p with
          | some (.opt ty cs) =>
            if (min len es2.length = 0 ∨ sz2 = 1) ∧ P.cellsOf e = 1 ∧ es2.all V.one then
              match putN sl p (.opt ty (cs.take j ++ (es2.take (min len es2.length)).map .p ++ cs.drop (j + min len es2.length))) true with
              | some sl' => putD sl' dst (.v (.int .i64 (min len es2.length : Nat)))
              | none => none
            else none
          | _ => none) = some s
        rw [hz]; (try dsimp only)
        rw [if_pos ⟨.inr hc.1, hc.2, hc2⟩, h1]
        exact h2
      · cases h
    · cases h
  · cases h
theorem backsK_ok : ∀ {ps : List Pass} {xs : List T} {sl : List S} {k : List S → Option R}, backsK sl ps xs k = some r → ∃ s, backs sl ps xs = some s ∧ k s = some r
  | [], [], sl, k, h => ⟨sl, rfl, h⟩
  | [], _ :: _, sl, k, h => by simp [backsK] at h
  | ⟨g, hd, lk⟩ :: ps, [], sl, k, h => by cases g <;> cases hd <;> simp [backsK] at h
  | ⟨g, hd, lk⟩ :: ps, x :: xs, sl, k, h => by
    cases g with
    | v u => cases hd with
      | none => simp only [backsK] at h; simp only [backs]; exact backsK_ok h
      | some p => simp [backsK] at h
    | mv u => cases hd with
      | none => simp [backsK] at h
      | some p =>
        simp only [backsK] at h
        simp only [backs]
        split at h
        · rename_i s1 h1
          rw [h1]
          exact backsK_ok h
        · cases h
    | io u w => cases hd with
      | none => simp [backsK] at h
      | some p =>
        simp only [backsK] at h
        simp only [backs]
        split at h
        · rename_i y hy
          obtain ⟨hl, h⟩ := ite_ok h
          rw [hy]; dsimp only
          rw [if_pos hl]
          split at h
          · rename_i s1 h1
            rw [h1]
            exact backsK_ok h
          · cases h
        · cases h
theorem callK_ok {K : Oracle} {sp : Sp} (hsp : SpOk K sp) {f : FuncId} {ps : List Pass} {dst : Option Nat} {k : List S → Option R} (h : callK P sp sl f ps dst k = some r) : ∃ s, callPs P K sl f ps dst = some s ∧ k s = some r := by
  unfold callK at h
  obtain ⟨hc, h⟩ := ite_ok h
  split at h
  · rename_i c hcs
    obtain ⟨t, outs, hK, h⟩ := hsp _ _ _ _ _ _ hcs h
    obtain ⟨s1, h1, h⟩ := backsK_ok h
    obtain ⟨s2, h2, hk⟩ := onS_ok h
    refine ⟨s2, ?_, hk⟩
    unfold callPs
    rw [if_pos hc, hK]
    simp only [h1]
    exact h2
  · cases h
theorem readAK_ok {t : TypeId} {m : Nat} {x : Operand} {k : Pass → Option R} (h : readAK P t sl m x k = some r) : ∃ a, readA P t sl m x = some a ∧ k a = some r := by
  have dflt : (match readA P t sl m x with | some a => k a | none => none) = some r → ∃ a, readA P t sl m x = some a ∧ k a = some r := by
    intro h
    split at h
    · rename_i a ha; exact ⟨a, ha, h⟩
    · cases h
  unfold readAK at h
  split at h
  · exact dflt h
  · rename_i hm
    split at h
    · rename_i p j sz len hr
      obtain ⟨hsz, h'⟩ := ite_ok h
      subst hsz
      obtain ⟨n, es, he, h'⟩ := elemsK_ok h'
      refine ⟨_, ?_, h'⟩
      unfold readA
      simp only [hm, hr, he]
    · exact dflt h
theorem readAllK_ok {H : Hints} {f : FuncId} : ∀ {xs : List Operand} {i : Nat} {k : List Pass → Option R}, readAllK P H f sl i xs k = some r → ∃ l, readAll P H f sl i xs = some l ∧ k l = some r
  | [], i, k, h => ⟨[], rfl, h⟩
  | x :: xs, i, k, h => by
    unfold readAllK at h
    obtain ⟨a, ha, h⟩ := readAK_ok h
    obtain ⟨l, hl, h⟩ := readAllK_ok h
    refine ⟨a :: l, ?_, h⟩
    unfold readAll
    rw [ha]; dsimp only
    rw [hl]
theorem carryK_ok {n : Nat} {u v c : V} {k : T → Option R} (h : carryK n u v c k = some r) : ∃ t, carryV n u v c = some t ∧ k t = some r := by
  have hi : ∀ {q : V} {x : Int}, V.int? .u64 q = some x → q = .int .u64 x := by
    intro q x hq
    cases q with
    | int k m =>
      simp only [V.int?] at hq
      split at hq
      · rename_i hk; subst hk; cases hq; rfl
      · cases hq
    | _ => simp [V.int?] at hq
  unfold carryK at h
  obtain ⟨x, hx, h⟩ := Option.bind_eq_some_iff.1 h
  obtain ⟨y, hy, h⟩ := Option.bind_eq_some_iff.1 h
  obtain ⟨z, hz, h⟩ := Option.bind_eq_some_iff.1 h
  obtain rfl := hi hx
  obtain rfl := hi hy
  obtain rfl := hi hz
  unfold carryV
  dsimp only
  split at h
  · rename_i h1
    rw [if_pos h1]
    obtain ⟨h2, h⟩ := ite_ok h
    rw [if_pos h2]
    exact ⟨_, rfl, h⟩
  · rename_i h1
    rw [if_neg h1]
    obtain ⟨h1, h⟩ := ite_ok h
    rw [if_pos h1]
    obtain ⟨h2, h⟩ := ite_ok h
    rw [if_pos h2]
    exact ⟨_, rfl, h⟩
theorem callOpK_ok {K : Oracle} {sp : Sp} (hsp : SpOk K sp) {H : Hints} {f : FuncId} {args : List Operand} {more : List V} {dst : Option Nat} {k : List S → Option R} (h : callOpK P sp H sl f args more dst k = some r) :
    ∃ s, callOp P K H sl f args more dst = some s ∧ k s = some r := by
  unfold callOpK at h
  unfold callOp
  split at h
  · rename_i hs
    rw [if_pos hs]
    split at h
    · rename_i x
      dsimp only
      obtain ⟨hn0, h⟩ := ite_ok h
      rw [if_pos hn0]
      split at h
      · rename_i v hr; rw [hr]; exact onS_ok h
      · rename_i p i j hr; rw [hr]; exact onS_ok h
      · cases h
    · rename_i x y z
      dsimp only
      split at h
      · rename_i u hu
        rw [hu]; dsimp only
        split at h
        · rename_i v hv
          rw [hv]; dsimp only
          split at h
          · rename_i c hc
            rw [hc]; dsimp only
            obtain ⟨t, ht, h⟩ := carryK_ok h
            rw [ht]
            exact onS_ok h
          · cases h
        · cases h
      · cases h
    · cases h
  · rename_i hs
    rw [if_neg hs]
    obtain ⟨s1, h1, h⟩ := prepK_ok h
    rw [h1]; dsimp only
    obtain ⟨l, hl, h⟩ := readAllK_ok h
    rw [hl]
    exact callK_ok hsp h
theorem callMK_ok {K : Oracle} {sp : Sp} (hsp : SpOk K sp) {H : Hints} {t : Nat} {name : String} {args : List Operand} {dst : Option Nat} {k : List S → Option R} (h : callMK P sp H sl t name args dst k = some r) :
    ∃ s, callM P K H sl t name args dst = some s ∧ k s = some r := by
  unfold callMK at h
  unfold callM
  split at h
  · rename_i u p hs
    try rw [hs]
    try dsimp only
    split at h
    · rename_i f hm
      try rw [hm]
      try dsimp only
      obtain ⟨s1, h1, h⟩ := prepK_ok h
      rw [h1]; dsimp only
      split at h
      · rename_i u' p' ty cs l h2 h3 h4
        obtain ⟨he, h⟩ := ite_ok h
        rw [h2, h3, h4]; dsimp only
        rw [if_pos he]
        exact callK_ok hsp h
      · cases h
    · cases h
  · cases h
theorem stepA_K0 {K : Oracle} {H : Hints} {me : FuncId} {o : Oper} {s : List S} (h : stepA P K0 H me sl o = some s) : stepA P K H me sl o = some s := by
  have cps : ∀ {f : FuncId} {ps : List Pass} {dst : Option Nat}, callPs P K0 sl f ps dst = none := by
    intro f ps dst
    simp [callPs, K0]
  have cps' : ∀ {sl : List S} {f : FuncId} {ps : List Pass} {dst : Option Nat}, callPs P K0 sl f ps dst = none := by
    intro sl f ps dst
    simp [callPs, K0]
  have cop : ∀ {f : FuncId} {args : List Operand} {more : List V} {dst : Option Nat} {s : List S}, callOp P K0 H sl f args more dst = some s → callOp P K H sl f args more dst = some s := by
    intro f args more dst s h
    unfold callOp at h ⊢
    split at h
    · rename_i hs; rw [if_pos hs]; exact h
    · rename_i hs
      split at h
      · split at h
        · rw [cps'] at h; cases h
        · cases h
      · cases h
  unfold stepA at h ⊢
  cases hn : nilOp P o with
  | some y => rw [hn] at h; exact h
  | none =>
    rw [hn] at h; dsimp only at h ⊢
    cases hl : lookA P sl o.op with
    | some u => rw [hl] at h; exact h
    | none =>
      rw [hl] at h; dsimp only at h ⊢
      generalize o.op = op at h ⊢
      cases op with
      | call c =>
        obtain ⟨callee, args, ts⟩ := c
        cases callee with
        | value fv =>
          cases fv with
          | func f => simp only [eff] at h ⊢; exact cop h
          | tmp t =>
            simp only [eff] at h ⊢
            split at h
            · exact cop h
            · cases h
          | _ => simp only [eff] at h; cases h
        | invoke rr m =>
          cases rr with
          | tmp t =>
            simp only [eff] at h ⊢
            unfold callM at h ⊢
            repeat' split at h
            all_goals first | (rw [cps'] at h; cases h; done) | (cases h; done)
          | _ => simp only [eff] at h; cases h
        | builtin b => cases b <;> exact h
      | makeFunc fv first captured =>
        cases fv with
        | func f => simp only [eff] at h ⊢; exact h
        | _ => simp only [eff] at h; cases h
      | _ => exact h
theorem stepK_ok {K : Oracle} {sp : Sp} (hsp : SpOk K sp) {H : Hints} {me : FuncId} {o : Oper} {k : List S → Option R} (h : stepK P sp H me sl o k = some r) : ∃ s, stepA P K H me sl o = some s ∧ k s = some r := by
  have plain : ∀ {x : Option R}, x = onS (stepA P K0 H me sl o) k → x = some r → ∃ s, stepA P K H me sl o = some s ∧ k s = some r := by
    intro x hx h
    rw [hx] at h
    obtain ⟨s, hs, hk⟩ := onS_ok h
    exact ⟨s, stepA_K0 hs, hk⟩
  unfold stepK at h
  cases hn : nilOp P o with
  | some y =>
    rw [hn] at h
    obtain ⟨s, hs, hk⟩ := onS_ok h
    exact ⟨s, by simp [stepA, hn, hs], hk⟩
  | none =>
    rw [hn] at h
    have look : ∀ {u : S} , lookA P sl o.op = some u → onS (putD sl o.dst u) k = some r → ∃ s, stepA P K H me sl o = some s ∧ k s = some r := by
      intro u hu h
      obtain ⟨s, hs, hk⟩ := onS_ok h
      exact ⟨s, by simp [stepA, hn, hu, hs], hk⟩
    have effs : lookA P sl o.op = none → ∀ {s : List S}, eff P K H me sl o.dst o.op = some s → k s = some r → ∃ s, stepA P K H me sl o = some s ∧ k s = some r := by
      intro hl s hs hk
      exact ⟨s, by simp [stepA, hn, hl, hs], hk⟩
    obtain ⟨dst, op, type, pos, after, guard⟩ := o
    dsimp only at h look effs
    cases op with
    | pick c a b =>
      obtain ⟨v, hv, hk⟩ := pickK_look h
      exact look hv hk
    | binOp op t x y yt =>
      dsimp only at h
      split at h
      · rename_i a b ha hb
        obtain ⟨v, hv, hk⟩ := binK_ok h
        exact look (by simp [lookA, ha, hb, hv]) hk
      · cases h
    | convert s d x =>
      dsimp only at h
      split at h
      · rename_i e hs hd
        split at h
        · rename_i l he hp
          obtain ⟨h1, h⟩ := ite_ok h
          obtain ⟨h2, h⟩ := ite_ok h
          obtain ⟨s2, h3, hk⟩ := onS_ok h
          refine effs ?_ (s := s2) ?_ hk
          · simp only [lookA]
            split
            · simp [conv, hs, hd]
            · rfl
          · simp only [eff, hs, hd, he, hp]
            rw [if_pos ⟨h2, h1⟩]; exact h3
        · cases h
      · exact plain rfl h
      · split at h
        · rename_i a hr
          obtain ⟨u, hu, hk⟩ := convK_ok h
          exact look (by simp [lookA, hr, hu]) hk
        · cases h
    | load t a =>
      dsimp only at h
      split at h
      · rename_i p i j hr
        split at h
        · rename_i ty cs hz
          have scal : aggT P t = some false → ((cs[j]?).bind fun x => x.val?.bind fun v => viewK P t v fun u => onS (putD sl dst (.v u)) k) = some r → ∃ s, stepA P K H me sl ⟨dst, .load t a, type, pos, after, guard⟩ = some s ∧ k s = some r := by
            intro ha h
            rw [Option.bind_eq_some_iff] at h
            obtain ⟨x, hx, h⟩ := h
            rw [Option.bind_eq_some_iff] at h
            obtain ⟨v, hv, h⟩ := h
            have hxv : x = .p v := by cases x <;> simp [T.val?] at hv; rw [hv]
            subst hxv
            exact look (u := .v v) (by simp [lookA, hr, load, hz, ha, hx, loadCell]) (viewK_ok (k := fun u => onS (putD sl dst (.v u)) k) h)
          split at h
          · rename_i n e hu
            obtain ⟨h1, h⟩ := ite_ok h
            rw [Option.bind_eq_some_iff] at h
            obtain ⟨l, hl, hk⟩ := h
            exact look (by simp [lookA, hr, load, hz, aggT, hu, h1, hl]) (viewK_ok (k := fun u => onS (putD sl dst (.v u)) k) hk)
          · rename_i hu; exact scal (by simp [aggT, hu]) h
          · rename_i kd hu; exact scal (by simp [aggT, hu]) h
          · rename_i hu; exact scal (by simp [aggT, hu]) h
          · rename_i pe hu
            rw [Option.bind_eq_some_iff] at h
            obtain ⟨x, hx, h⟩ := h
            rw [Option.bind_eq_some_iff] at h
            obtain ⟨b, hb, h⟩ := h
            have hxb := np_mk hb
            have ha : aggT P t = some false := by simp [aggT, hu]
            cases b with
            | true => exact look (u := .bpt p 0 0) (by simp [lookA, hr, load, hz, ha, hx, hxb, npT, loadCell]) (by simpa using h)
            | false => exact look (u := .v .nilp) (by simp [lookA, hr, load, hz, ha, hx, hxb, npT, loadCell]) (by simpa using h)
          · exact plain rfl h
        · obtain ⟨u, hu, hk⟩ := loadK_ok h
          exact look (by simp [lookA, hr, hu]) hk
      · rename_i s hne hr
        obtain ⟨u, hu, hk⟩ := loadK_ok h
        exact look (by simp [lookA, hr, hu]) hk
      · cases h
    | indexAddr t x i =>
      dsimp only at h
      split at h
      · rename_i s kd n hr hp
        obtain ⟨u, hu, hk⟩ := indexAddrK_ok h
        exact look (by simp [lookA, hr, hp, hu]) hk
      · cases h
    | sliceToArrayPointer t x =>
      dsimp only at h
      split at h
      · rename_i s hr
        obtain ⟨u, hu, hk⟩ := arrayAtK_ok h
        exact look (by simp [lookA, hr, hu]) hk
      · cases h
    | index t x i =>
      dsimp only at h
      split at h
      · rename_i v kd n hr hp
        obtain ⟨u, hu, hk⟩ := indexK_ok h
        exact look (by simp [lookA, hr, hp, hu]) hk
      · cases h
    | field t x f =>
      dsimp only at h
      split at h
      · rename_i v hr
        obtain ⟨u, hu, hk⟩ := fieldK_ok h
        exact look (by simp [lookA, hr, hu]) hk
      · cases h
    | slice t x lo hi mx =>
      dsimp only at h
      split at h
      · cases h
      · rename_i hm
        split at h
        · rename_i s hr
          obtain ⟨u, hu, hk⟩ := sliceK_ok h
          exact look (by simp [lookA, hm, hr, hu]) hk
        · cases h
    | store t a x =>
      dsimp only at h
      split at h
      · rename_i p i j _ hr
        obtain ⟨s, hs, hk⟩ := storeK_ok h
        exact effs rfl (by simp [eff, hr, hs]) hk
      · cases h
    | alloc t =>
      dsimp only at h
      split at h
      · rename_i n e z hu hz
        split at h
        · split at h
          · rename_i q cs he hk
            split at h
            · rename_i hc
              obtain ⟨h1, h2⟩ := Bool.and_eq_true_iff.1 hc
              have h3 := allZ_eq h1
              rw [Nat.eq_of_beq_eq_true h2] at h3
              obtain ⟨s, hs, hk2⟩ := onS_ok h
              refine effs rfl (s := s) ?_ hk2
              simp only [eff, hz, hk]
              rw [h3, tagTs_zero]
              exact hs
            · exact plain rfl h
          · exact plain rfl h
        · exact plain rfl h
      · exact plain rfl h
    | box t x =>
      dsimp only at h
      split at h
      · rename_i vs sl1 h1
        obtain ⟨ha, h⟩ := ite_ok h
        obtain ⟨hc, h⟩ := ite_ok h
        obtain ⟨s, hs, hk⟩ := onS_ok h
        refine effs rfl (s := s) ?_ hk
        simp only [eff, h1]
        rw [if_pos ⟨ha, hc⟩]; exact hs
      · exact plain rfl h
    | build t parts =>
      dsimp only at h
      split at h
      · exact plain rfl h
      rename_i hzo
      split at h
      · exact plain rfl h
      rename_i hpI
      have hpI' : partI sl parts.toList = none := by simpa using hpI
      obtain ⟨l, sl1, h1, h⟩ := tkVsK_ok h
      obtain ⟨v, hv, h⟩ := buildK_ok h
      obtain ⟨s, hs, hk⟩ := onS_ok h
      exact effs rfl (by simp only [eff]; rw [if_neg hzo]; simp [hpI', h1, hv, hs]) hk
    | buildSlice t len parts =>
      dsimp only at h
      split at h
      · rename_i e hu
        obtain ⟨l, sl1, h1, h⟩ := tkVsK_ok h
        obtain ⟨hc, h⟩ := ite_ok h
        split at h
        · rename_i hl0
          obtain ⟨hle, h⟩ := ite_ok h
          obtain ⟨s, hs, hk⟩ := onS_ok h
          refine effs rfl (s := s) ?_ hk
          simp only [eff, hu, h1, if_pos hl0, if_pos hle]
          rw [if_pos ⟨by simp, hc⟩]; exact hs
        · rename_i hl0
          split at h
          · rename_i z hz
            obtain ⟨hw, h⟩ := ite_ok h
            obtain ⟨es, he, h⟩ := setPartsK_ok h
            obtain ⟨hwell, h⟩ := wellK_ok h
            obtain ⟨s, hs, hk⟩ := onS_ok h
            refine effs rfl (s := s) ?_ hk
            simp only [eff, hu, h1, if_neg hl0, hz, if_pos hw, he]
            rw [if_pos ⟨hwell, hc⟩]; exact hs
          · cases h
      · cases h
    | makeInterface t x =>
      dsimp only at h
      split at h
      · exact plain rfl h
      rename_i hoB
      obtain ⟨hc, h⟩ := ite_ok h
      obtain ⟨v, sl1, h1, h⟩ := tkVK_ok h
      obtain ⟨s, hs, hk⟩ := onS_ok h
      exact effs rfl (by simp only [eff]; rw [if_pos hc, if_neg hoB]; simp [h1, hs]) hk
    | makeSlice t l c =>
      dsimp only at h
      split at h
      · rename_i e l0 c0 hu hl hc
        split at h
        · rename_i z hz
          obtain ⟨h1, h⟩ := ite_ok h
          obtain ⟨h2, h⟩ := ite_ok h
          obtain ⟨s, hs, hk⟩ := onS_ok h
          refine effs rfl (s := s) ?_ hk
          simp only [eff, hu, hl, hc, hz]
          rw [if_pos ⟨h2.1, h2.2.1, h2.2.2, h1.1, h1.2.1, h1.2.2⟩]; exact hs
        · cases h
      · cases h
    | call c =>
      obtain ⟨callee, args, ts⟩ := c
      cases callee with
      | value fv =>
        cases fv with
        | func f =>
          obtain ⟨s, hs, hk⟩ := callOpK_ok hsp h
          exact effs rfl (by simp [eff, hs]) hk
        | tmp t =>
          dsimp only at h
          split at h
          · rename_i sn f caps hst
            obtain ⟨s, hs, hk⟩ := callOpK_ok hsp h
            exact effs rfl (by simp [eff, hst, hs]) hk
          · cases h
        | _ => exact plain rfl h
      | invoke rr m =>
        cases rr with
        | tmp t =>
          obtain ⟨s, hs, hk⟩ := callMK_ok hsp h
          exact effs rfl (by simp [eff, hs]) hk
        | _ => exact plain rfl h
      | builtin b =>
        cases b
        case append =>
          dsimp only at h
          split at h
          · rename_i x y t u e1 e2
            split at h
            · rename_i e hu
              split at h
              · rename_i hmv
                obtain ⟨s, hs, hk⟩ := appendFK_ok h
                exact effs rfl (by simp only [eff, e1, e2, hu]; rw [if_pos hmv]; exact hs) hk
              · rename_i hmv
                obtain ⟨s, hs, hk⟩ := appendK_ok h
                exact effs rfl (by simp only [eff, e1, e2, hu]; rw [if_neg hmv]; exact hs) hk
            · cases h
          · cases h
        case copy =>
          dsimp only at h
          split at h
          · rename_i x y t u e1 e2
            split at h
            · rename_i e hu
              obtain ⟨s, hs, hk⟩ := copyK_ok h
              exact effs rfl (by simp [eff, e1, e2, hu, hs]) hk
            · cases h
          · cases h
        case unsafeString =>
          dsimp only at h
          split at h
          · rename_i x n pt u e1 e2
            split at h
            · rename_i p n0 hr hn0
              split at h
              · rename_i ty es e hz hu
                obtain ⟨h1, h⟩ := ite_ok h
                obtain ⟨h2, h⟩ := ite_ok h
                rw [Option.bind_eq_some_iff] at h
                obtain ⟨l, hl, h⟩ := h
                obtain ⟨s1, h3, h⟩ := onS_ok h
                obtain ⟨s, h4, hk⟩ := onS_ok h
                refine effs rfl (s := s) ?_ hk
                simp only [eff, e1, e2, hr, hn0, hz, hu]
                rw [if_pos ⟨h1.1, h2.1, h2.2.1, h2.2.2, h1.2⟩, hl]
                simp only [h3]; exact h4
              · cases h
            · exact plain rfl h
          · cases h
        all_goals exact plain rfl h
    | _ => exact plain rfl h
end
end Go.Proofs.Ytffofdfikmpanaa.A
namespace Go.Proofs.Ytffofdfikmpanaa.A
set_option linter.unusedVariables false
set_option linter.unusedSimpArgs false
section
variable {P : Program} {K : Oracle} {H : Hints} {me : FuncId} {Rc : List Nat} {sl sl' : List S}
def Cl (Rc : List Nat) (sl : List S) : Prop := ∀ i s, i ∈ Rc → sl[i]? = some s → ∀ k ∈ s.roots, k ∈ Rc
structure Kp (Rc : List Nat) (a b : List S) : Prop where
  len : b.length = a.length
  cl : Cl Rc b
  out : ∀ i, i ∉ Rc → (∀ s, a[i]? = some s → ∀ k ∈ s.roots, k ∉ Rc) → b[i]? = a[i]?
theorem Kp.refl (h : Cl Rc sl) : Kp Rc sl sl := ⟨rfl, h, fun _ _ _ => rfl⟩
theorem Kp.trans {a b c : List S} (h : Kp Rc a b) (g : Kp Rc b c) : Kp Rc a c :=
  ⟨g.len.trans h.len, g.cl, fun i hi hr => by
    have e := h.out i hi hr
    rw [g.out i hi (by rw [e]; exact hr), e]⟩
theorem Cl.loc (h : Cl Rc sl) : Loc (· ∈ Rc) (· ∈ Rc) sl sl sl sl := Loc.start (fun _ _ => rfl) (fun _ _ => .inl rfl) fun i s hi hs => h i s hi hs
theorem Kp.of_loc {b2 : List S} (L : Loc (· ∈ Rc) (· ∈ Rc) sl sl sl' b2) : Kp Rc sl sl' := by
  obtain ⟨kp, h1, h2⟩ := L.kp
  refine ⟨L.la, fun i s hi hs => L.clos i s hi hs, fun i hi hr => ?_⟩
  rw [(h2 i hi).1]
  cases hs : sl[i]? with
  | none => rfl
  | some s =>
    simp only [Option.map_some, Option.some.injEq]
    exact killBy_roots_id fun q hq hqr => hr s hs q.s hqr (h1 q hq)
theorem Kp.of_done {b2 : List S} (hc : Cl Rc sl) (D : Done (· ∈ Rc) (· ∈ Rc) sl sl sl' b2) : Kp Rc sl sl' := by
  obtain ⟨kp, h1, h2⟩ := D.kp
  refine ⟨D.la, fun i s hi hs => D.clos i s hi hs, fun i hi hr => ?_⟩
  rw [(h2 i hi).1]
  cases hs : sl[i]? with
  | none => rfl
  | some s =>
    simp only [Option.map_some, Option.some.injEq]
    exact killBy_roots_id fun q hq hqr => hr s hs q.s hqr (h1 q hq)
theorem tkB_sub (hc : Cl Rc sl) {x : Operand} (hx : ∀ t, x = .tmp t → t ∈ Rc) : ∀ k ∈ tkB sl x, k ∈ Rc := by
  intro k hk
  cases x with
  | tmp t =>
    have ht := hx t rfl
    simp only [tkB] at hk
    split at hk
    · cases hk
    · rename_i p _ _ _ hs
      rw [List.mem_singleton.1 hk]
      exact hc t _ ht hs p.s (by simp [S.roots])
    · rename_i p _ _ _ hs
      rw [List.mem_singleton.1 hk]
      exact hc t _ ht hs p.s (by simp [S.roots])
    · rw [List.mem_singleton.1 hk]; exact ht
  | _ => simp [tkB] at hk
theorem plX_sub (hc : Cl Rc sl) {x : Operand} (hx : ∀ t, x = .tmp t → t ∈ Rc) : ∀ k ∈ plX sl x, k ∈ Rc := by
  intro k hk
  cases x with
  | tmp t =>
    have ht := hx t rfl
    simp only [plX] at hk
    split at hk
    · cases hk
    · rw [List.mem_singleton.1 hk]; exact ht
    · rename_i s _ _ hs
      exact hc t s ht hs k hk
    · cases hk
  | _ => simp [plX] at hk
theorem callX_sub (hc : Cl Rc sl) : ∀ {args : List Operand}, (∀ x ∈ args, ∀ t, x = .tmp t → t ∈ Rc) → ∀ k ∈ callX sl args, k ∈ Rc
  | [], _ => fun k hk => by simp [callX] at hk
  | x :: r, hx => fun k hk => by
    simp only [callX, List.mem_append] at hk
    rcases hk with hk | hk
    · cases x with
      | tmp t =>
        have ht := hx (.tmp t) (by simp) t rfl
        rcases List.mem_cons.1 hk with rfl | hk
        · exact ht
        · cases hs : sl[t]? with
          | none => rw [hs] at hk; simp at hk
          | some s => rw [hs] at hk; exact hc t s ht hs k hk
      | _ => simp at hk
    · exact callX_sub hc (fun y hy => hx y (List.mem_cons_of_mem _ hy)) k hk
theorem callB_sub (hc : Cl Rc sl) {f : FuncId} : ∀ {args : List Operand} {n : Nat}, (∀ x ∈ args, ∀ t, x = .tmp t → t ∈ Rc) → ∀ k ∈ callB H f sl n args, k ∈ Rc
  | [], n, _ => fun k hk => by simp [callB] at hk
  | x :: r, n, hx => fun k hk => by
    simp only [callB, List.mem_append] at hk
    rcases hk with hk | hk
    · cases x with
      | tmp t =>
        have ht := hx (.tmp t) (by simp) t rfl
        simp only [List.mem_append] at hk
        rcases hk with hk | hk
        · split at hk
          · rw [List.mem_singleton.1 hk]; exact ht
          · cases hk
        · split at hk
          · cases hk
          · rename_i p _ _ _ hs
            split at hk
            · cases hk
            · rw [List.mem_singleton.1 hk]; exact hc t _ ht hs p.s (by simp [S.roots])
          · rename_i p _ _ _ hs
            split at hk
            · cases hk
            · rw [List.mem_singleton.1 hk]; exact hc t _ ht hs p.s (by simp [S.roots])
          · rename_i p _ _ hs
            rw [List.mem_singleton.1 hk]; exact hc t _ ht hs p.s (by simp [S.roots])
          · rename_i u p hs
            rw [List.mem_singleton.1 hk]; exact hc t _ ht hs p.s (by simp [S.roots])
          · rw [List.mem_singleton.1 hk]; exact ht
      | _ => cases hk
    · exact callB_sub hc (fun y hy => hx y (List.mem_cons_of_mem _ hy)) k hk
theorem effB_sub (hc : Cl Rc sl) {op : Op} (hx : ∀ x ∈ op.operands.toList, ∀ t, x = .tmp t → t ∈ Rc) : ∀ k ∈ effB H sl op, k ∈ Rc := by
  intro k hk
  cases op with
  | move x => exact tkB_sub hc (hx x (by simp [Op.operands])) k hk
  | assign x => exact tkB_sub hc (hx x (by simp [Op.operands])) k hk
  | box t x => exact tkB_sub hc (hx x (by simp [Op.operands])) k hk
  | makeInterface t x => exact tkB_sub hc (hx x (by simp [Op.operands])) k hk
  | convert t u x => exact tkB_sub hc (hx x (by simp [Op.operands])) k hk
  | makeFunc fv first captured =>
    simp only [effB, List.mem_flatMap] at hk
    obtain ⟨y, hy, hk⟩ := hk
    cases y with
    | tmp t => simp only [slotX, List.mem_singleton] at hk; subst hk; exact hx (.tmp k) (by simp [Op.operands, Array.mem_toList_iff.1 hy]) k rfl
    | _ => cases hk
  | store t x y =>
    simp only [effB, List.mem_append] at hk
    rcases hk with hk | hk
    · exact plX_sub hc (hx x (by simp [Op.operands])) k hk
    · exact tkB_sub hc (hx y (by simp [Op.operands])) k hk
  | build t ps =>
    simp only [effB, List.mem_flatMap] at hk
    obtain ⟨p, hp, hk⟩ := hk
    exact tkB_sub hc (hx p.2 (by simp [Op.operands]; exact ⟨_, by simpa using hp⟩)) k hk
  | buildSlice t n ps =>
    simp only [effB, List.mem_flatMap] at hk
    obtain ⟨p, hp, hk⟩ := hk
    exact tkB_sub hc (hx p.2 (by simp [Op.operands]; exact ⟨_, by simpa using hp⟩)) k hk
  | load t x => exact plX_sub hc (hx x (by simp [Op.operands])) k hk
  | extract x i =>
    cases x with
    | tmp t =>
      have hk' : k = t := by
        simp only [effB, exB] at hk
        split at hk
        · split at hk
          · cases hk
          · exact List.mem_singleton.1 hk
        · exact List.mem_singleton.1 hk
      rw [hk']
      exact hx (.tmp t) (by simp [Op.operands]) t rfl
    | _ => simp [effB, exB] at hk
  | call c =>
    obtain ⟨callee, args, ts⟩ := c
    have hargs : ∀ x ∈ args.toList, ∀ t, x = .tmp t → t ∈ Rc := fun x hm => hx x (by
      have hx' : x ∈ args := Array.mem_toList_iff.1 hm
      cases callee <;> simp [Op.operands, Call.operands, hx'])
    cases callee with
    | builtin bi =>
      cases bi <;> try (simp [effB] at hk; done)
      all_goals
        simp only [effB] at hk
        generalize args.toList = l at hargs hk
        cases l with
        | nil => cases hk
        | cons x r => first | exact tkB_sub hc (hargs x (by simp)) k hk | exact plX_sub hc (hargs x (by simp)) k hk
    | invoke r m =>
      cases r with
      | tmp t =>
        simp only [effB, List.mem_append] at hk
        rcases hk with hk | hk
        · have ht : t ∈ Rc := hx (.tmp t) (by simp [Op.operands, Call.operands]) t rfl
          cases hs : sl[t]? with
          | none => rw [hs] at hk; simp at hk
          | some s => rw [hs] at hk; exact hc t s ht hs k hk
        · exact callX_sub hc hargs k hk
      | _ => simp [effB] at hk
    | value fv =>
      cases fv with
      | func f => exact callB_sub hc hargs k hk
      | tmp t =>
        simp only [effB] at hk
        split at hk
        · exact callB_sub hc hargs k hk
        · cases hk
      | _ => simp [effB] at hk
  | _ => simp [effB] at hk
theorem stepA_kp (hc : Cl Rc sl) {o : Oper} (hops : ∀ x ∈ o.op.operands.toList, ∀ t, x = .tmp t → t ∈ Rc) (hd : ∀ d, o.dst = some d → d ∈ Rc) (h : stepA P K H me sl o = some sl') : Kp Rc sl sl' := by
  have L := hc.loc
  unfold stepA at h
  split at h
  · obtain ⟨b2, _, D⟩ := L.putD (fun i hi => .inl hi) hd (by simp [S.roots]) h
    exact Kp.of_done hc D
  · split at h
    · rename_i s hl
      obtain ⟨b2, _, D⟩ := L.putD (fun i hi => .inl hi) hd ((L.lookA hops).2 s hl) h
      exact Kp.of_done hc D
    · obtain ⟨b2, _, D⟩ := L.effAll hops (fun k hk => effB_sub hc hops k hk) (fun i hi => .inl hi) hd _ h
      exact Kp.of_done hc D
theorem putD_kp (hc : Cl Rc sl) {dst : Option Nat} {x : T} (hd : ∀ d, dst = some d → d ∈ Rc) (h : putD sl dst (.t x) = some sl') : Kp Rc sl sl' := by
  obtain ⟨b2, _, D⟩ := hc.loc.putD (fun i hi => .inl hi) hd (by simp [S.roots]) h
  exact Kp.of_done hc D
theorem fixS_kp : ∀ {l : List (Nat × Bool)} {sl sl' : List S}, Cl Rc sl → (∀ x ∈ l, x.1 ∈ Rc) → fixS P l sl = some sl' → Kp Rc sl sl'
  | [], sl, sl', hc, _, h => by simp only [fixS, Option.some.injEq] at h; subst h; exact Kp.refl hc
  | (d, false) :: r, sl, sl', hc, hl, h => by
    simp only [fixS] at h
    split at h
    · rename_i s1 h1
      have k1 : Kp Rc sl s1 := putD_kp (dst := some d) hc (fun e he => by cases he; exact hl (d, false) (by simp)) h1
      exact k1.trans (fixS_kp k1.cl (fun x hx => hl x (List.mem_cons_of_mem _ hx)) h)
    · cases h
  | (d, true) :: r, sl, sl', hc, hl, h => by
    simp only [fixS] at h
    have hd : d ∈ Rc := hl (d, true) (by simp)
    split at h
    · rename_i v s1 h1
      split at h
      · rename_i s2 h2
        obtain ⟨b1, _, L1⟩ := hc.loc.tkV (x := .tmp d) (fun t ht => by cases ht; exact hd) (fun k hk => tkB_sub hc (fun t ht => by cases ht; exact hd) k hk) _ _ h1
        have k1 := Kp.of_loc L1
        have k2 : Kp Rc s1 s2 := putD_kp (dst := some d) k1.cl (fun e he => by cases he; exact hd) h2
        exact (k1.trans k2).trans (fixS_kp k2.cl (fun x hx => hl x (List.mem_cons_of_mem _ hx)) h)
      · cases h
    · cases h
theorem stepW_kp (hc : Cl Rc sl) {all : List Oper} {o : Oper} (hops : ∀ x ∈ o.op.operands.toList, ∀ t, x = .tmp t → t ∈ Rc) (hd : ∀ d, o.dst = some d → d ∈ Rc) (h : stepW P K H me all sl o = some sl') : Kp Rc sl sl' := by
  unfold stepW at h
  split at h
  · exact stepA_kp hc hops hd h
  · exact putD_kp hc hd h
  · cases h
theorem pickK_dst {all : List Oper} {o : Oper} {x : Nat × Bool} (h : x ∈ pickK all o) : ∃ g ∈ all, g.dst = some x.1 := by
  unfold pickK at h
  split at h
  · rw [List.mem_filterMap] at h
    obtain ⟨g, hg, h⟩ := h
    split at h
    · split at h
      · split at h
        · rw [Option.map_eq_some_iff] at h
          obtain ⟨d, hd, rfl⟩ := h
          exact ⟨g, hg, hd⟩
        · cases h
      · cases h
    · cases h
  · cases h
theorem occ_ops {ops : List Oper} {o : Oper} (ho : o ∈ ops) : (∀ x ∈ o.op.operands.toList, ∀ t, x = .tmp t → t ∈ ops.flatMap fun o => o.dst.toList ++ o.op.operands.toList.flatMap occX) ∧ (∀ d, o.dst = some d → d ∈ ops.flatMap fun o => o.dst.toList ++ o.op.operands.toList.flatMap occX) := by
  constructor
  · intro x hx t ht
    subst ht
    exact List.mem_flatMap.2 ⟨o, ho, List.mem_append_right _ (List.mem_flatMap.2 ⟨_, hx, by simp [occX]⟩)⟩
  · intro d hd
    exact List.mem_flatMap.2 ⟨o, ho, List.mem_append_left _ (by simp [hd])⟩
theorem runOps_kp {all : List Oper} (hall : ∀ i ∈ all.flatMap (fun o => o.dst.toList ++ o.op.operands.toList.flatMap occX), i ∈ Rc) : ∀ {ops : List Oper} {sl sl' : List S}, (∀ o ∈ ops, o ∈ all) → Cl Rc sl → runOps P K H me all ops sl = some sl' → Kp Rc sl sl'
  | [], sl, sl', _, hc, h => by simp only [runOps, Option.some.injEq] at h; subst h; exact Kp.refl hc
  | o :: r, sl, sl', hs, hc, h => by
    simp only [runOps] at h
    obtain ⟨h1, h2⟩ := occ_ops (hs o (by simp))
    split at h
    · rename_i s1 hst
      have k1 := stepW_kp hc (fun x hx t ht => hall t (h1 x hx t ht)) (fun d hd => hall d (h2 d hd)) hst
      split at h
      · rename_i s2 hfx
        have k2 := fixS_kp k1.cl (fun x hx => by
          obtain ⟨g, hg, hgd⟩ := pickK_dst hx
          exact hall _ ((occ_ops hg).2 _ hgd)) hfx
        exact (k1.trans k2).trans (runOps_kp hall (fun o ho => hs o (List.mem_cons_of_mem _ ho)) k2.cl h)
      · cases h
    · cases h
theorem runR_kp {all : List Oper} (hall : ∀ i ∈ all.flatMap (fun o => o.dst.toList ++ o.op.operands.toList.flatMap occX), i ∈ Rc) : ∀ {l : List Nat} {sl sl' : List S} {recs : List Rec}, Cl Rc sl → runR P K H me all l sl = some (recs, sl') → Kp Rc sl sl'
  | [], sl, sl', recs, hc, h => by simp only [runR, Option.some.injEq, Prod.mk.injEq] at h; rw [← h.2]; exact Kp.refl hc
  | i :: r, sl, sl', recs, hc, h => by
    simp only [runR] at h
    split at h
    · rename_i o ho
      obtain ⟨h1, h2⟩ := occ_ops (List.mem_of_getElem? ho)
      split at h
      · rename_i x s1 hst
        have k1 : Kp Rc sl s1 := by
          unfold stepR at hst
          split at hst
          · split at hst
            · split at hst
              · rename_i s2 hs2
                cases hst
                exact stepA_kp hc (fun x hx t ht => hall t (h1 x hx t ht)) (fun d hd => hall d (h2 d hd)) hs2
              · cases hst
            · cases hst
          · split at hst
            · rename_i s2 hs2
              cases hst
              exact putD_kp hc (fun d hd => hall d (h2 d hd)) hs2
            · cases hst
          · cases hst
        split at h
        · rename_i l2 s2 h3
          cases h
          exact k1.trans (runR_kp hall k1.cl h3)
        · cases h
      · cases h
    · cases h
theorem around_kp {h : HT} {f : List S → Option (Ex × List S)} {e : Ex} (hc : Cl Rc sl) (hh : ∀ i ∈ htSlots h, i ∈ Rc) (hr : around P h f sl = some (e, sl')) (hf : ∀ s s' e', Cl Rc s → f s = some (e', s') → Kp Rc s s') : Kp Rc sl sl' := by
  have hpre : ∀ x ∈ h.pre, x.1 ∈ Rc := fun x hx => hh _ (by cases h with | z => cases hx | n p q l r => simp only [htSlots, List.mem_append]; exact .inl (.inl (.inl (List.mem_map_of_mem hx))))
  have hpost : ∀ x ∈ h.post, x.1 ∈ Rc := fun x hx => hh _ (by cases h with | z => cases hx | n p q l r => simp only [htSlots, List.mem_append]; exact .inl (.inl (.inr (List.mem_map_of_mem hx))))
  unfold around at hr
  split at hr
  · rename_i s1 h1
    have k1 := fixS_kp hc hpre h1
    cases hfs : f s1 with
    | none => rw [hfs] at hr; simp [postS] at hr
    | some er =>
      obtain ⟨e2, s2⟩ := er
      have k2 := hf s1 s2 e2 k1.cl hfs
      rw [hfs] at hr
      cases e2 with
      | normal =>
        simp only [postS] at hr
        split at hr
        · rename_i s3 h3
          cases hr
          exact (k1.trans k2).trans (fixS_kp k2.cl hpost h3)
        · cases hr
      | exit j => simp only [postS, Option.some.injEq, Prod.mk.injEq] at hr; rw [← hr.2]; exact k1.trans k2
      | ret => simp only [postS, Option.some.injEq, Prod.mk.injEq] at hr; rw [← hr.2]; exact k1.trans k2
  · cases hr
theorem htSlots_l {h : HT} {i : Nat} (hi : i ∈ htSlots h.l) : i ∈ htSlots h := by
  cases h with
  | z => exact hi
  | n p q l r => simp only [htSlots, List.mem_append]; exact .inl (.inr hi)
theorem htSlots_r {h : HT} {i : Nat} (hi : i ∈ htSlots h.r) : i ∈ htSlots h := by
  cases h with
  | z => exact hi
  | n p q l r => simp only [htSlots, List.mem_append]; exact .inr hi
theorem dstsC_occ : ∀ {c : Code} {d : Nat}, d ∈ dstsC c → d ∈ occ c := by
  intro c
  induction c with
  | region id ops draw =>
    intro d h
    simp only [dstsC, List.mem_flatMap] at h
    obtain ⟨o, ho, hd⟩ := h
    simp only [occ, List.mem_flatMap]
    exact ⟨o, ho, List.mem_append_left _ hd⟩
  | seq a b iha ihb => intro d h; simp only [dstsC, List.mem_append] at h; simp only [occ, List.mem_append]; exact h.imp (fun h => iha h) fun h => ihb h
  | cond c a b iha ihb => intro d h; simp only [dstsC, List.mem_append] at h; simp only [occ, List.mem_append]; exact h.elim (fun h => .inl (.inr (iha h))) fun h => .inr (ihb h)
  | block id b ih => intro d h; exact ih h
  | loop b ih => intro d h; exact ih h
  | _ => intro d h; simp [dstsC] at h
theorem setPs_kp : ∀ {ps : List Nat} {vs : List V} {sl sl' : List S}, Cl Rc sl → (∀ p ∈ ps, p ∈ Rc) → setPs ps vs sl = some sl' → Kp Rc sl sl'
  | [], [], sl, sl', hc, _, h => by simp only [setPs, Option.some.injEq] at h; subst h; exact Kp.refl hc
  | p :: ps, v :: vs, sl, sl', hc, hp, h => by
    simp only [setPs] at h
    split at h
    · rename_i s1 h1
      have k1 : Kp Rc sl s1 := putD_kp hc (dst := some p) (x := .p v) (fun d hd => by cases hd; exact hp p (by simp)) h1
      exact k1.trans (setPs_kp k1.cl (fun q hq => hp q (List.mem_cons_of_mem _ hq)) h)
    · cases h
  | [], _ :: _, _, _, _, _, h => by simp [setPs] at h
  | _ :: _, [], _, _, _, _, h => by simp [setPs] at h
theorem rfStart_kp {g : Operand} {f : FuncId} {items : List (List V)} {chk : Bool} (hc : Cl Rc sl) (hg : ∀ t, g = .tmp t → t ∈ Rc) (h : rfStart P H g sl = some (f, items, sl', chk)) : Kp Rc sl sl' := by
  unfold rfStart at h
  split at h
  · split at h
    · split at h
      · cases h; exact Kp.refl hc
      · cases h
    · cases h
  · split at h
    · rename_i f' x s1 h1
      split at h
      · split at h
        · cases h
          obtain ⟨b1, _, L1⟩ := hc.loc.tk (x := g) hg (fun k hk => tkB_sub hc hg k hk) _ _ h1
          exact Kp.of_loc L1
        · cases h
      · cases h
    · cases h
theorem exec_kp : ∀ (c : Code) {h : HT} {sl sl' : List S} {e : Ex}, (∀ i ∈ occ c, i ∈ Rc) → (∀ i ∈ htSlots h, i ∈ Rc) → Cl Rc sl → exec P K H me c h sl = some (e, sl') → Kp Rc sl sl' := by
  intro c
  induction c with
  | skip =>
    intro h sl sl' e ho hh hc hr
    simp only [exec] at hr
    exact around_kp hc hh hr fun s s' e' hs hx => by cases hx; exact Kp.refl hs
  | exit id =>
    intro h sl sl' e ho hh hc hr
    simp only [exec] at hr
    exact around_kp hc hh hr fun s s' e' hs hx => by cases hx; exact Kp.refl hs
  | ret =>
    intro h sl sl' e ho hh hc hr
    simp only [exec] at hr
    exact around_kp hc hh hr fun s s' e' hs hx => by cases hx; exact Kp.refl hs
  | region id ops draw =>
    intro h sl sl' e ho hh hc hr
    simp only [exec] at hr
    refine around_kp hc hh hr fun s s' e' hs hx => ?_
    split at hx
    · rename_i s2 h2
      cases hx
      cases draw with
      | false => exact runOps_kp ho (fun o h => h) hs (by simpa using h2)
      | true =>
        simp only [if_true] at h2
        unfold runD at h2
        split at h2
        · rename_i ps recs s3 hf hrun
          split at h2
          · have : s3 = s' := Option.some.inj h2
            subst this
            exact runR_kp ho hs hrun
          · cases h2
        · cases h2
    · cases hx
  | seq a b iha ihb =>
    intro h sl sl' e ho hh hc hr
    simp only [exec] at hr
    simp only [occ, List.mem_append] at ho
    refine around_kp hc hh hr fun s s' e' hs hx => ?_
    split at hx
    · rename_i s2 h2
      have k1 := iha (fun i hi => ho i (.inl hi)) (fun i hi => hh i (htSlots_l hi)) hs h2
      exact k1.trans (ihb (fun i hi => ho i (.inr hi)) (fun i hi => hh i (htSlots_r hi)) k1.cl hx)
    · exact iha (fun i hi => ho i (.inl hi)) (fun i hi => hh i (htSlots_l hi)) hs hx
  | cond c a b iha ihb =>
    intro h sl sl' e ho hh hc hr
    simp only [exec] at hr
    simp only [occ, List.mem_append] at ho
    refine around_kp hc hh hr fun s s' e' hs hx => ?_
    split at hx
    · rename_i t ht
      split at hx
      · exact iha (fun i hi => ho i (.inl (.inr hi))) (fun i hi => hh i (htSlots_l hi)) hs hx
      · exact ihb (fun i hi => ho i (.inr hi)) (fun i hi => hh i (htSlots_r hi)) hs hx
    · cases hx
  | block id b ih =>
    intro h sl sl' e ho hh hc hr
    simp only [exec] at hr
    refine around_kp hc hh hr fun s s' e' hs hx => ?_
    split at hx
    · rename_i j s2 h2
      have k1 := ih ho (fun i hi => hh i (htSlots_l hi)) hs h2
      split at hx <;> (cases hx; exact k1)
    · exact ih ho (fun i hi => hh i (htSlots_l hi)) hs hx
  | loop b ih =>
    intro h sl sl' e ho hh hc hr
    simp only [exec] at hr
    refine around_kp hc hh hr fun s s' e' hs hx => ?_
    unfold loopRun at hx
    split at hx
    · rename_i hex
      generalize Classical.choose hex = m at hx
      clear hex
      induction m generalizing s with
      | zero => simp [iter] at hx
      | succ m ihm =>
        simp only [iter] at hx
        split at hx
        · rename_i s2 h2
          have k1 := ih ho (fun i hi => hh i (htSlots_l hi)) hs h2
          exact k1.trans (ihm s2 k1.cl hx)
        · exact ih ho (fun i hi => hh i (htSlots_l hi)) hs hx
    · cases hx
  | rangeFunc g ps x b ihx ihb =>
    intro h sl sl' e ho hh hc hr
    simp only [exec] at hr
    have hkill : ∀ y ∈ rfKill ps.toList x b, y.1 ∈ Rc := fun y hy => by
      simp only [rfKill, List.mem_map] at hy
      obtain ⟨d, hd, rfl⟩ := hy
      simp only [List.mem_append] at hd
      rcases hd with (hd | hd) | hd
      · exact ho _ (by simp only [occ, List.mem_append]; exact .inl (.inl (.inr hd)))
      · exact ho _ (by simp only [occ, List.mem_append]; exact .inl (.inr (dstsC_occ hd)))
      · exact ho _ (by simp only [occ, List.mem_append]; exact .inr (dstsC_occ hd))
    have hps : ∀ p ∈ ps.toList, p ∈ Rc := fun p hp => ho _ (by simp only [occ, List.mem_append]; exact .inl (.inl (.inr hp)))
    refine around_kp hc hh hr fun s s' e' hs hx => ?_
    split at hx
    · rename_i s0 h0
      have k0 := fixS_kp hs hkill h0
      refine k0.trans ?_
      have hs0 := k0.cl
      clear k0 h0
      split at hx
      · rename_i f items s00 chk hst
        have kst := rfStart_kp hs0 (fun t ht => ho t (by subst ht; simp only [occ, List.mem_append]; exact .inl (.inl (.inl (by simp [occX]))))) hst
        refine kst.trans ?_
        have hs1 := kst.cl
        clear kst hst hr
        induction items generalizing s00 with
        | nil => simp only [rfRun, Option.some.injEq, Prod.mk.injEq] at hx; obtain ⟨_, rfl⟩ := hx; exact Kp.refl hs1
        | cons xi r ihr =>
          simp only [rfRun] at hx
          split at hx
          · rename_i s1 h1
            have k1 := setPs_kp hs1 hps h1
            split at hx
            · rename_i s2 h2
              have k2 := ihx (fun i hi => ho i (by simp only [occ, List.mem_append]; exact .inl (.inr hi))) (fun i hi => hh i (htSlots_l hi)) k1.cl h2
              split at hx
              · rename_i e3 s3 h3
                have k3 := ihb (fun i hi => ho i (by simp only [occ, List.mem_append]; exact .inr hi)) (fun i hi => hh i (htSlots_r hi)) k2.cl h3
                split at hx
                · rename_i s4 h4
                  have k4 := fixS_kp k3.cl hkill h4
                  have k := ((k1.trans k2).trans k3).trans k4
                  split at hx
                  · cases e3 with
                    | normal => exact k.trans (ihr s4 hx k4.cl)
                    | exit j => simp only [Option.some.injEq, Prod.mk.injEq] at hx; obtain ⟨_, rfl⟩ := hx; exact k
                    | ret => simp only [Option.some.injEq, Prod.mk.injEq] at hx; obtain ⟨_, rfl⟩ := hx; exact k
                  · cases hx
                · cases hx
              · cases hx
            · cases hx
          · cases hx
      · cases hx
    · cases hx
  | _ => intro h sl sl' e ho hh hc hr; simp only [exec] at hr; cases hr
end
end Go.Proofs.Ytffofdfikmpanaa.A
namespace Go.Proofs.Ytffofdfikmpanaa.A
set_option linter.unusedVariables false
set_option linter.unusedSimpArgs false
section
variable {P : Program} {K : Oracle} {sp : Sp} {H : Hints} {me : FuncId} {R : Type} {r : R} {sl : List S}
def Qp (ds : List Nat) (a b : List S) : Prop := b.length = a.length ∧ ∃ kp : Pl → Bool, (∀ q, kp q = false → q.s ∈ ds) ∧ ∀ i, i ∉ ds → b[i]? = (a[i]?).map (S.killBy kp)
theorem Qp.refl (ds : List Nat) (a : List S) : Qp ds a a := ⟨rfl, fun _ => true, by simp, fun i _ => map_true _⟩
theorem Qp.trans {ds : List Nat} {a b c : List S} (h : Qp ds a b) (g : Qp ds b c) : Qp ds a c := by
  obtain ⟨l1, k1, h1, h2⟩ := h
  obtain ⟨l2, k2, g1, g2⟩ := g
  refine ⟨l2.trans l1, fun q => k2 q && k1 q, fun q hq => ?_, fun i hi => ?_⟩
  · simp only [Bool.and_eq_false_iff] at hq; exact hq.elim (g1 q) (h1 q)
  · rw [g2 i hi, h2 i hi]
    cases a[i]? with
    | none => rfl
    | some s => simp [killBy_and]
theorem allLoc (sl : List S) (Bs : Nat → Prop) : Loc (fun _ => True) Bs sl sl sl sl := Loc.start (fun _ _ => rfl) (fun _ _ => .inl rfl) fun _ _ _ _ _ _ => trivial
theorem putD_qp {ds : List Nat} {sl' : List S} {dst : Option Nat} {s : S} (hd : ∀ d, dst = some d → d ∈ ds) (h : putD sl dst s = some sl') : Qp ds sl sl' := by
  obtain ⟨b2, _, D⟩ := (allLoc sl (· ∈ ds)).putD (fun i _ => .inl trivial) hd (fun _ _ => trivial) h
  obtain ⟨kp, h1, h2⟩ := D.kp
  exact ⟨D.la, kp, h1, fun i hi => (h2 i hi).1⟩
theorem stepA_qp {ds : List Nat} {o : Oper} {sl' : List S} (hd : ∀ d, o.dst = some d → d ∈ ds) (he : ∀ k ∈ effW P H sl o, k ∈ ds) (h : stepA P K H me sl o = some sl') : Qp ds sl sl' := by
  unfold stepA at h
  cases hn : nilOp P o with
  | some y => rw [hn] at h; exact putD_qp hd h
  | none =>
    rw [hn] at h; dsimp only at h
    cases hl : lookA P sl o.op with
    | some s => rw [hl] at h; exact putD_qp hd h
    | none =>
      rw [hl] at h; dsimp only at h
      have hb : ∀ k ∈ effB H sl o.op, k ∈ ds := by
        unfold effW at he
        rw [hn, hl] at he
        exact he
      obtain ⟨b2, _, D⟩ := (allLoc sl (· ∈ ds)).effAll (op := o.op) (dst := o.dst) (fun _ _ _ _ => trivial) hb (fun i _ => .inl trivial) hd _ h
      obtain ⟨kp, h1, h2⟩ := D.kp
      exact ⟨D.la, kp, h1, fun i hi => (h2 i hi).1⟩
theorem fixS_qp {ds : List Nat} : ∀ {l : List (Nat × Bool)} {sl sl' : List S}, (∀ x ∈ l, x.2 = false ∧ x.1 ∈ ds) → fixS P l sl = some sl' → Qp ds sl sl'
  | [], sl, sl', _, h => by simp only [fixS, Option.some.injEq] at h; subst h; exact Qp.refl _ _
  | (d, false) :: l, sl, sl', hl, h => by
    simp only [fixS] at h
    split at h
    · rename_i s1 h1
      have k1 : Qp ds sl s1 := putD_qp (dst := some d) (fun e he => by cases he; exact (hl (d, false) (by simp)).2) h1
      exact k1.trans (fixS_qp (fun x hx => hl x (List.mem_cons_of_mem _ hx)) h)
    · cases h
  | (d, true) :: l, sl, sl', hl, h => by have := (hl (d, true) (by simp)).1; cases this
theorem pickK_false {all : List Oper} {o : Oper} {x : Nat × Bool} (h : x ∈ pickK all o) : x.2 = false := by
  unfold pickK at h
  split at h
  · rw [List.mem_filterMap] at h
    obtain ⟨g, _, hg⟩ := h
    split at hg
    · split at hg
      · split at hg
        · rw [Option.map_eq_some_iff] at hg
          obtain ⟨d, _, rfl⟩ := hg
          rfl
        · cases hg
      · cases hg
    · cases hg
  · cases h
theorem set_same {d : Nat} {s : S} (h : sl[d]? = some s) : sl.set d s = sl := by
  refine List.ext_getElem? fun i => ?_
  by_cases he : i = d
  · subst he; rw [List.getElem?_set_self (List.getElem?_eq_some_iff.1 h).1, h]
  · rw [List.getElem?_set_ne (Ne.symm he)]
theorem evOps_ok (hsp : SpOk K sp) {all : List Oper} {q : Bool} {ds : List Nat} (hds : ∀ o ∈ all, ∀ d, o.dst = some d → d ∈ ds) : ∀ {ops : List Oper} {sl : List S} {k : List S → Option R}, (∀ o ∈ ops, o ∈ all) → evOps P sp H me all q ops sl k = some r →
    ∃ s, runOps P K H me all ops sl = some s ∧ k s = some r ∧ (q = true → Qp ds sl s)
  | [], sl, k, _, h => ⟨sl, rfl, h, fun _ => Qp.refl _ _⟩
  | o :: rest, sl, k, hs, h => by
    have hod := hds o (hs o (by simp))
    have after : ∀ {s1 : List S}, stepW P K H me all sl o = some s1 → (q = true → Qp ds sl s1) → onS (fixS P (pickK all o) s1) (fun s => forceL s fun s => evOps P sp H me all q rest s k) = some r →
        ∃ s, runOps P K H me all (o :: rest) sl = some s ∧ k s = some r ∧ (q = true → Qp ds sl s) := by
      intro s1 hst hq h
      obtain ⟨s2, h2, h⟩ := onS_ok h
      rw [forceL_eq] at h
      obtain ⟨s3, h3, hk, hq2⟩ := evOps_ok hsp hds (fun o ho => hs o (List.mem_cons_of_mem _ ho)) h
      refine ⟨s3, by simp [runOps, hst, h2, h3], hk, fun hqt => ?_⟩
      refine ((hq hqt).trans (fixS_qp (fun x hx => ⟨pickK_false hx, ?_⟩) h2)).trans (hq2 hqt)
      obtain ⟨g, hg, hgd⟩ := pickK_dst hx
      exact hds g hg _ hgd
    have run : wantA all sl o = some true → (if (q && !((effB H sl o.op).all (all.flatMap fun o => o.dst.toList).contains || (effX P H me sl o).all (all.flatMap fun o => o.dst.toList).contains)) = true then none else stepK P sp H me sl o fun sl' => onS (fixS P (pickK all o) sl') fun s => forceL s fun s => evOps P sp H me all q rest s k) = some r →
        ∃ s, runOps P K H me all (o :: rest) sl = some s ∧ k s = some r ∧ (q = true → Qp ds sl s) := by
      intro hw h
      split at h
      · cases h
      · rename_i hq
        obtain ⟨s1, h1, hk⟩ := stepK_ok hsp h
        refine after (by simp [stepW, hw, h1]) (fun hqt => ?_) hk
        have hq2 : ∀ l : List Nat, l.all (all.flatMap fun o => o.dst.toList).contains = true → ∀ k ∈ l, k ∈ ds := fun l hl k hk => by
          have := List.all_eq_true.1 hl k hk
          rw [List.contains_iff_mem, List.mem_flatMap] at this
          obtain ⟨o', ho', hk'⟩ := this
          exact hds o' ho' k (by simpa using hk')
        have hq3 : ((effB H sl o.op).all (all.flatMap fun o => o.dst.toList).contains || (effX P H me sl o).all (all.flatMap fun o => o.dst.toList).contains) = true := by
          rw [hqt] at hq
          cases hz : ((effB H sl o.op).all (all.flatMap fun o => o.dst.toList).contains || (effX P H me sl o).all (all.flatMap fun o => o.dst.toList).contains) with
          | true => rfl
          | false => exact absurd (by rw [hz]; rfl) hq
        have he : ∀ k ∈ effW P H sl o, k ∈ ds := by
          rw [Bool.or_eq_true] at hq3
          rcases hq3 with h0 | h0
          · unfold effW; split
            · simp
            · exact hq2 _ h0
          · rw [effX_eq h1] at h0
            exact hq2 _ h0
        exact stepA_qp hod he h1
    have skip : wantA all sl o = some false → onS (putD sl o.dst (.t (.tup []))) (fun sl' => onS (fixS P (pickK all o) sl') fun s => forceL s fun s => evOps P sp H me all q rest s k) = some r →
        ∃ s, runOps P K H me all (o :: rest) sl = some s ∧ k s = some r ∧ (q = true → Qp ds sl s) := by
      intro hw h
      obtain ⟨s1, h1, hk⟩ := onS_ok h
      exact after (by simp [stepW, hw, h1]) (fun _ => putD_qp hod h1) hk
    simp only [evOps] at h
    split at h
    · rename_i hg
      exact run (by simp [wantA, hg]) h
    · rename_i j want hg
      split at h
      · rename_i g hj
        split at h
        · rename_i d hd
          split at h
          · rename_i b hb
            split at h
            · rename_i hbw
              subst hbw
              rw [set_same hb] at h
              exact run (by simp [wantA, hg, hj, hd, hb]) h
            · rename_i hbw
              have hb2 : b = !want := by cases b <;> cases want <;> simp_all
              subst hb2
              rw [set_same hb] at h
              exact skip (by simp [wantA, hg, hj, hd, hb]) h
          · rename_i hb
            exact skip (by simp [wantA, hg, hj, hd, hb]) h
          · cases h
        · cases h
      · cases h
theorem evR_ok (hsp : SpOk K sp) {all : List Oper} {q : Bool} {ds : List Nat} (hds : ∀ o ∈ all, ∀ d, o.dst = some d → d ∈ ds) (hds2 : ∀ k ∈ all.flatMap (fun o => o.dst.toList), k ∈ ds) : ∀ {l : List Nat} {acc : List Rec} {sl : List S} {k : List Rec → List S → Option R}, evR P sp H me all q l acc sl k = some r →
    ∃ recs s, runR P K H me all l sl = some (recs, s) ∧ k (acc ++ recs) s = some r ∧ (q = true → Qp ds sl s)
  | [], acc, sl, k, h => ⟨[], sl, rfl, by simpa [evR, forceRs_eq] using h, fun _ => Qp.refl _ _⟩
  | i :: l, acc, sl, k, h => by
    simp only [evR] at h
    split at h
    · rename_i o ho
      have hod := hds o (List.mem_of_getElem? ho)
      have run : wantA all sl o = some true → (if (closedB sl (readsA all sl o) && (effX P H me sl o).all (readsA all sl o).contains && (!q || (effX P H me sl o).all (all.flatMap fun o => o.dst.toList).contains)) = true then
          stepK P sp H me sl o fun sl' => forceL sl' fun sl' => forceNs (readsA all sl o ++ o.dst.toList) fun fp => forceNs (o.dst.toList ++ effX P H me sl o) fun wr => evR P sp H me all q l (acc ++ [⟨fp, wr⟩]) sl' k
        else none) = some r → ∃ recs s, runR P K H me all (i :: l) sl = some (recs, s) ∧ k (acc ++ recs) s = some r ∧ (q = true → Qp ds sl s) := by
        intro hw h
        obtain ⟨hc, h⟩ := ite_ok h
        obtain ⟨s1, h1, h⟩ := stepK_ok hsp h
        rw [forceL_eq, forceNs_eq, forceNs_eq] at h
        rw [effX_eq h1] at hc h
        obtain ⟨recs, s, h2, hk, hq⟩ := evR_ok hsp hds hds2 h
        rw [Bool.and_eq_true] at hc
        obtain ⟨hc, hc2⟩ := hc
        refine ⟨_ :: recs, s, ?_, by rw [List.append_assoc] at hk; exact hk, fun hqt => ?_⟩
        · simp only [runR, ho, stepR, hw]
          rw [if_pos hc, h1]
          simp only [h2]
        · refine Qp.trans (stepA_qp hod (fun k hk => ?_) h1) (hq hqt)
          rw [hqt] at hc2
          rw [Bool.not_true, Bool.false_or] at hc2
          exact hds2 k (List.contains_iff_mem.1 (List.all_eq_true.1 hc2 k hk))
      have skip : wantA all sl o = some false → onS (putD sl o.dst (.t (.tup []))) (fun sl' => forceNs (guardS all o ++ o.dst.toList) fun fp => evR P sp H me all q l (acc ++ [⟨fp, o.dst.toList⟩]) sl' k) = some r →
          ∃ recs s, runR P K H me all (i :: l) sl = some (recs, s) ∧ k (acc ++ recs) s = some r ∧ (q = true → Qp ds sl s) := by
        intro hw h
        obtain ⟨s1, h1, h⟩ := onS_ok h
        rw [forceNs_eq] at h
        obtain ⟨recs, s, h2, hk, hq⟩ := evR_ok hsp hds hds2 h
        refine ⟨_ :: recs, s, ?_, by rw [List.append_assoc] at hk; exact hk, fun hqt => Qp.trans (putD_qp hod h1) (hq hqt)⟩
        simp only [runR, ho, stepR, hw, h1, h2]
      split at h
      · rename_i hg
        exact run (by simp [wantA, hg]) h
      · rename_i j want hg
        split at h
        · rename_i g hj
          split at h
          · rename_i d hd
            split at h
            · rename_i b hb
              split at h
              · rename_i hbw
                subst hbw
                rw [set_same hb] at h
                exact run (by simp [wantA, hg, hj, hd, hb]) h
              · rename_i hbw
                have hb2 : b = !want := by cases b <;> cases want <;> simp_all
                subst hb2
                rw [set_same hb] at h
                exact skip (by simp [wantA, hg, hj, hd, hb]) h
            · rename_i hb
              exact skip (by simp [wantA, hg, hj, hd, hb]) h
            · cases h
          · cases h
        · cases h
    · cases h
theorem Ss.put_len : ∀ {cs : List (Nat × Sc)} {y : Ss cs} {l : List S}, (Ss.put cs y l).length = l.length
  | [], _, _ => rfl
  | [c], _, _ => by simp [Ss.put]
  | c :: d :: rr, y, l => by simp only [Ss.put]; rw [Ss.put_len]; simp
theorem Ss.put_ne : ∀ {cs : List (Nat × Sc)} {y : Ss cs} {l : List S} {i : Nat}, i ∉ cs.map (·.1) → (Ss.put cs y l)[i]? = l[i]?
  | [], _, _, _, _ => rfl
  | [c], _, l, i, h => by simp only [Ss.put]; rw [List.getElem?_set_ne (by simp at h; exact fun e => h e.symm)]
  | c :: d :: rr, y, l, i, h => by
    simp only [Ss.put]
    simp only [List.map_cons, List.mem_cons, not_or] at h
    rw [Ss.put_ne (by simp only [List.map_cons, List.mem_cons, not_or]; exact h.2), List.getElem?_set_ne (Ne.symm h.1)]
theorem evRegion_ok (hsp : SpOk K sp) {h : HT} {ops : List Oper} {draw : Bool} {k : List S → Option R} (hh : evRegion P sp H me h ops draw sl k = some r) :
    ∃ s s', (if draw then runD P K H me ops sl else runOps P K H me ops ops sl) = some s ∧ fixS P h.post s = some s' ∧ k s' = some r := by
  have hds : ∀ o ∈ ops, ∀ d, o.dst = some d → d ∈ ops.flatMap fun o => o.dst.toList := fun o ho d hd => List.mem_flatMap.2 ⟨o, ho, by simp [hd]⟩
  have plain : draw = false → evOps P sp H me ops false ops sl (fun s => onS (fixS P h.post s) k) = some r → ∃ s s', (if draw then runD P K H me ops sl else runOps P K H me ops ops sl) = some s ∧ fixS P h.post s = some s' ∧ k s' = some r := by
    intro hd hh
    obtain ⟨s, h1, h2, _⟩ := evOps_ok hsp hds (fun o ho => ho) hh
    obtain ⟨s', h3, hk⟩ := onS_ok h2
    exact ⟨s, s', by simp [hd, h1], h3, hk⟩
  have join : ∀ {D : List (Nat × Sc)} {s s' : List S} {y : Ss D}, joinOk h ops D sl = true → fixS P h.post s = some s' → Ss.get D s' = some y → Qp (ops.flatMap fun o => o.dst.toList) sl s → k (Ss.put D y sl) = some r → k s' = some r := by
    intro D s s' y hj hs' h2 hq hk
    obtain ⟨hl, kp, hkp, hout⟩ := hq
    simp only [joinOk, Bool.and_eq_true] at hj
    obtain ⟨⟨j1, j2⟩, j3⟩ := hj
    have hpost : ∀ x ∈ h.post, x.2 = false ∧ x.1 ∈ ops.flatMap fun o => o.dst.toList := fun x hx => by
      have := List.all_eq_true.1 j1 x hx
      simp only [Bool.and_eq_true, Bool.not_eq_true', List.contains_iff_mem] at this
      exact this
    obtain ⟨hl2, kp2, hkp2, hout2⟩ := fixS_qp hpost hs'
    have hroots : ∀ (i : Nat) (x : S), sl[i]? = some x → ∀ q ∈ x.roots, q ∉ ops.flatMap fun o => o.dst.toList := fun i x hx q hq hin => by
      have h1 := List.all_eq_true.1 (List.all_eq_true.1 j3 x (List.mem_of_getElem? hx)) q hq
      rw [Bool.not_eq_true'] at h1
      rw [← List.contains_iff_mem, h1] at hin
      cases hin
    have := Ss.get_put (m := sl) h2 (by rw [hl2, hl]) fun i hi => by
      by_cases hid : i ∈ ops.flatMap fun o => o.dst.toList
      · have := List.all_eq_true.1 j2 i hid
        simp only [Bool.or_eq_true, Bool.and_eq_true, List.contains_iff_mem] at this
        rcases this with h3 | ⟨h3, h4⟩
        · exact absurd h3 hi
        · split at h4
          · rename_i x hx
            have hxd : x = .t .dead := by
              cases x with
              | t z => cases z <;> simp [S.isDead] at h4; rfl
              | _ => simp [S.isDead] at h4
            subst hxd
            rw [hx]
            exact (fixS_dead (fun x hx => (hpost x hx).1) hs' (by simpa using h3)).symm
          · cases h4
      · rw [hout2 i hid, hout i hid]
        cases hx : sl[i]? with
        | none => rfl
        | some x =>
          simp only [Option.map_some, Option.some.injEq]
          rw [killBy_and]
          refine (killBy_roots_id fun q hq hqr => ?_).symm
          simp only [Bool.and_eq_false_iff] at hq
          exact hroots i x hx q.s hqr (hq.elim (hkp2 q) (hkp q))
    rw [← this]
    exact hk
  unfold evRegion at hh
  split at hh
  · rename_i hd
    split at hh
    · rename_i ps hf
      have plainD : evR P sp H me ops false (List.range ops.length) [] sl (fun recs s => if apartR recs ps then onS (fixS P h.post s) k else none) = some r → ∃ s s', (if draw then runD P K H me ops sl else runOps P K H me ops ops sl) = some s ∧ fixS P h.post s = some s' ∧ k s' = some r := by
        intro hh
        obtain ⟨recs, s, h1, hh, _⟩ := evR_ok hsp hds (fun k hk => hk) hh
        obtain ⟨hap, hh⟩ := ite_ok hh
        obtain ⟨s', h2, hk⟩ := onS_ok hh
        refine ⟨s, s', ?_, h2, hk⟩
        rw [if_pos hd]
        simp only [runD, hf, h1]
        rw [if_pos (by simpa using hap)]
      rw [forcePs_eq] at hh
      dsimp only at hh
      split at hh
      · split at hh
        · rename_i D hD
          split at hh
          · rename_i hj
            rw [Bool.and_eq_true] at hj
            replace hj := hj.2
            rw [Option.bind_eq_some_iff] at hh
            obtain ⟨y, hy, hk⟩ := hh
            obtain ⟨recs, s, h1, h2, hq⟩ := evR_ok hsp hds (fun k hk => hk) hy
            obtain ⟨hap, h2⟩ := ite_ok h2
            split at h2
            · rename_i s' hs'
              refine ⟨s, s', ?_, hs', join hj hs' h2 (hq rfl) hk⟩
              rw [if_pos hd]
              simp only [runD, hf, h1]
              rw [if_pos (by simpa using hap)]
            · cases h2
          · exact plainD hh
        · exact plainD hh
      · exact plainD hh
    · cases hh
  · rename_i hd
    have hd' : draw = false := by simpa using hd
    split at hh
    · split at hh
      · rename_i D hD
        split at hh
        · rename_i hj
          rw [Bool.and_eq_true] at hj
          replace hj := hj.2
          rw [Option.bind_eq_some_iff] at hh
          obtain ⟨y, hy, hk⟩ := hh
          obtain ⟨s, h1, h2, hq⟩ := evOps_ok hsp hds (fun o ho => ho) hy
          split at h2
          · rename_i s' hs'
            exact ⟨s, s', by simp [hd', h1], hs', join hj hs' h2 (hq rfl) hk⟩
          · cases h2
        · exact plain hd' hh
      · exact plain hd' hh
    · exact plain hd' hh
end
end Go.Proofs.Ytffofdfikmpanaa.A
namespace Go.Proofs.Ytffofdfikmpanaa.A
set_option linter.unusedVariables false
set_option linter.unusedSimpArgs false
section
variable {P : Program} {K : Oracle} {sp : Sp} {H : Hints} {me : FuncId} {ho : Ho}
theorem clB_spec {Rc : List Nat} {s : List S} (h : clB Rc s = true) : Cl Rc s := by
  intro i x hi hx k hk
  have := List.all_eq_true.1 h i hi
  rw [hx] at this
  have := List.all_eq_true.1 this k hk
  simpa using this
theorem stateD_spec {Rc kill : List Nat} : ∀ {l : List S} {n : Nat} {D : List (Nat × Sc)}, stateD.go ho Rc kill n l = some D → ∀ x ∈ D, n ≤ x.1 ∧ ∃ s, l[x.1 - n]? = some s ∧ s.sc ho x.1 = some x.2
  | [], n, D, h => by simp only [stateD.go, Option.some.injEq] at h; subst h; simp
  | s :: l, n, D, h => by
    simp only [stateD.go] at h
    split at h
    · rename_i l' hl
      have ih := stateD_spec hl
      have up : ∀ x ∈ l', n ≤ x.1 ∧ ∃ s0, (s :: l)[x.1 - n]? = some s0 ∧ s0.sc ho x.1 = some x.2 := fun x hx => by
        obtain ⟨h1, s0, h2, h3⟩ := ih x hx
        exact ⟨by omega, s0, by rw [show x.1 - n = (x.1 - (n + 1)) + 1 by omega]; simpa using h2, h3⟩
      split at h
      · cases h; exact up
      · split at h
        · split at h
          · rename_i c hc
            cases h
            intro x hx
            rcases List.mem_cons.1 hx with rfl | hx
            · exact ⟨Nat.le_refl _, s, by simp, hc⟩
            · exact up x hx
          · cases h
        · cases h; exact up
    · cases h
theorem sc_roots {i : Nat} {s : S} {c : Sc} (h : s.sc ho i = some c) (y : c.I) : (c.mk y).roots = s.roots := by
  have tree : ∀ (c : Sc) (y : c.I), (∃ x, c = .t x) ∨ (∃ ty cs, c = .node ty cs) ∨ (∃ ty, c = .nodeO ty) ∨ (∃ ty cs, c = .nodeR ty cs) ∨ (∃ ty u ty2 cs, c = .nodeI ty u ty2 cs) → (c.mk y).roots = [] := by
    intro c y hc
    rcases hc with ⟨x, rfl⟩ | ⟨ty, cs, rfl⟩ | ⟨ty, rfl⟩ | ⟨ty, cs, rfl⟩ | ⟨ty, u, ty2, cs, rfl⟩ <;> rfl
  cases s with
  | t x =>
    refine tree c y ?_
    cases x with
    | opt ty l =>
      simp only [S.sc, Option.some.injEq] at h
      split at h
      · exact .inr (.inl ⟨_, _, h.symm⟩)
      · split at h
        · exact .inr (.inr (.inr (.inl ⟨_, _, h.symm⟩)))
        · split at h
          · exact .inr (.inr (.inl ⟨_, h.symm⟩))
          · split at h
            · exact .inr (.inr (.inr (.inr ⟨_, _, _, _, h.symm⟩)))
            · split at h
              · exact .inr (.inr (.inr (.inl ⟨_, _, h.symm⟩)))
              · exact .inr (.inl ⟨_, _, h.symm⟩)
    | p v => cases v <;> (simp only [S.sc, Option.some.injEq] at h; exact .inl ⟨_, h.symm⟩)
    | _ => simp only [S.sc, Option.some.injEq] at h; exact .inl ⟨_, h.symm⟩
  | bsl p o l e => simp only [S.sc, Option.some.injEq] at h; subst h; rfl
  | bpt p i j => simp only [S.sc, Option.some.injEq] at h; subst h; rfl
  | bar p j z l => simp only [S.sc, Option.some.injEq] at h; subst h; rfl
  | _ => simp [S.sc] at h
theorem Ss.put_roots {Rc kill : List Nat} {s : List S} : ∀ {cs : List (Nat × Sc)} {y : Ss cs} {m : List S}, (∀ x ∈ cs, ∃ s0, s[x.1]? = some s0 ∧ s0.sc ho x.1 = some x.2) → (∀ (i : Nat) (x : S), m[i]? = some x → ∃ s0 : S, s[i]? = some s0 ∧ x.roots = s0.roots) →
    ∀ (i : Nat) (x : S), (Ss.put cs y m)[i]? = some x → ∃ s0 : S, s[i]? = some s0 ∧ x.roots = s0.roots
  | [], y, m, _, hm => hm
  | [c], y, m, hc, hm => fun i x hx => by
    simp only [Ss.put] at hx
    by_cases he : i = c.1
    · subst he
      have hlt : c.1 < m.length := by have := (List.getElem?_eq_some_iff.1 hx).1; simpa using this
      rw [List.getElem?_set_self hlt] at hx
      cases hx
      obtain ⟨s0, h1, h2⟩ := hc c (by simp)
      exact ⟨s0, h1, sc_roots h2 y⟩
    · rw [List.getElem?_set_ne (Ne.symm he)] at hx
      exact hm i x hx
  | c :: d :: rr, y, m, hc, hm => by
    simp only [Ss.put]
    refine Ss.put_roots (Rc := Rc) (kill := kill) (fun x hx => hc x (List.mem_cons_of_mem _ hx)) fun i x hx => ?_
    by_cases he : i = c.1
    · subst he
      have hlt : c.1 < m.length := by have := (List.getElem?_eq_some_iff.1 hx).1; simpa using this
      rw [List.getElem?_set_self hlt] at hx
      cases hx
      obtain ⟨s0, h1, h2⟩ := hc c (by simp)
      exact ⟨s0, h1, sc_roots h2 y.1⟩
    · rw [List.getElem?_set_ne (Ne.symm he)] at hx
      exact hm i x hx
theorem put_cl {Rc kill : List Nat} {s : List S} {D : List (Nat × Sc)} (hD : stateD ho Rc kill s = some D) (hc : Cl Rc s) (y : Ss D) : Cl Rc (Ss.put D y s) := by
  intro i x hi hx k hk
  have hsp := fun x hx => stateD_spec (ho := ho) hD x hx
  obtain ⟨s0, h1, h2⟩ := Ss.put_roots (ho := ho) (Rc := Rc) (kill := kill) (s := s) (y := y) (m := s) (fun x hx => by obtain ⟨_, s0, h1, h2⟩ := hsp x hx; exact ⟨s0, by simpa using h1, h2⟩) (fun i x hx => ⟨x, hx, rfl⟩) i x hx
  rw [h2] at hk
  exact hc i s0 hi h1 k hk
theorem isDead_eq {s : S} (h : s.isDead = true) : s = .t .dead := by
  cases s with
  | t z => cases z <;> simp [S.isDead] at h; rfl
  | _ => simp [S.isDead] at h
theorem same_out {Rc kill : List Nat} {D : List Nat} {a b c : List S} (hs : sameB D Rc kill a b = true) (hl : c.length = a.length) (hout : ∀ i, i ∉ D → i ∉ Rc → (∀ s, a[i]? = some s → ∀ k ∈ s.roots, k ∉ Rc) → b[i]? = c[i]?)
    (hdead : ∀ (i : Nat) (s : S), i ∉ D → a[i]? = some s → (s.isDead = true ∨ i ∈ kill) → c[i]? = some (.t .dead)) (hlb : b.length = a.length) : ∀ i, i ∉ D → c[i]? = b[i]? := by
  intro i hi
  by_cases hlt : i < a.length
  · have := List.all_eq_true.1 hs i (by simpa using hlt)
    simp only [Bool.or_eq_true, List.contains_iff_mem] at this
    rcases this with h | h
    · exact absurd h hi
    · split at h
      · rename_i s s' h1 h2
        split at h
        · rename_i hd
          rw [h2, isDead_eq h]
          exact hdead i s hi h1 hd
        · simp only [Bool.and_eq_true, Bool.not_eq_true'] at h
          refine (hout i hi (fun hin => ?_) fun s0 hs0 k hk hkr => ?_).symm
          · have h3 := h.1
            rw [← List.contains_iff_mem, h3] at hin
            cases hin
          · rw [h1] at hs0; cases hs0
            have h4 := List.all_eq_true.1 h.2 k hk
            rw [Bool.not_eq_true'] at h4
            rw [← List.contains_iff_mem, h4] at hkr
            cases hkr
      · cases h
  · rw [List.getElem?_eq_none (by omega), List.getElem?_eq_none (by omega)]
theorem reach_mem {s : List S} {l : List Nat} {i : Nat} (h : i ∈ l) : i ∈ reachL s l := List.mem_append_left _ h
theorem iter_of {f : List S → Option (Ex × List S)} {m : Nat} {s : List S} {e : Ex} {s' : List S} (h : iter f m s = some (e, s')) (hn : e ≠ .normal) : loopRun f s = some (e, s') := by
  have mono : ∀ {n m : Nat} {s : List S} {r : Ex × List S}, iter f n s = some r → n ≤ m → iter f m s = some r := by
    intro n
    induction n with
    | zero => intro m s r h; simp [iter] at h
    | succ n ih =>
      intro m s r h hm
      cases m with
      | zero => omega
      | succ m =>
        simp only [iter] at h ⊢
        split at h
        · exact ih h (by omega)
        · exact h
  have hex : ∃ n, (iter f n s).isSome := ⟨m, by rw [h]; rfl⟩
  unfold loopRun
  rw [dif_pos hex]
  obtain ⟨r', hr'⟩ := Option.isSome_iff_exists.1 (Classical.choose_spec hex)
  rcases Nat.le_total m (Classical.choose hex) with hle | hle
  · exact mono h hle
  · rw [hr']; have := mono hr' hle; rw [h] at this; exact this.symm
theorem fixSK_ok {R : Type} {r : R} : ∀ {l : List (Nat × Bool)} {s : List S} {k : List S → Option R}, fixSK P l s k = some r → ∃ s', fixS P l s = some s' ∧ k s' = some r
  | [], s, k, h => ⟨s, rfl, h⟩
  | (d, false) :: l, s, k, h => by
    unfold fixSK at h
    obtain ⟨s1, h1, h⟩ := onS_ok h
    obtain ⟨s2, h2, h⟩ := fixSK_ok h
    exact ⟨s2, by simp only [fixS, h1, h2], h⟩
  | (d, true) :: l, s, k, h => by
    unfold fixSK at h
    split at h
    · rename_i p j sz len hs
      obtain ⟨hsz, h'⟩ := ite_ok h
      subst hsz
      split at h'
      · rename_i ty cs hz
        obtain ⟨vs, hv, h'⟩ := Option.bind_eq_some_iff.1 h'
        obtain ⟨hst, h'⟩ := ite_ok h'
        obtain ⟨s1, h1, h'⟩ := onS_ok h'
        obtain ⟨s2, h2, h'⟩ := onS_ok h'
        obtain ⟨s3, h3, h'⟩ := fixSK_ok h'
        have ht : tkV P s (.tmp d) = some (.sl false false 1 ((vs.drop j).take len), s1) := by
          simp only [tkV, tk, hs, hz, hv, hst, h1, if_true]; rfl
        exact ⟨s3, by simp only [fixS, ht, h2, h3], h'⟩
      · cases h'
    · split at h
      · rename_i v s1 ht
        obtain ⟨s2, h2, h'⟩ := onS_ok h
        obtain ⟨s3, h3, h'⟩ := fixSK_ok h'
        exact ⟨s3, by simp only [fixS, ht, h2, h3], h'⟩
      · cases h
theorem around_norm {h : HT} {f : List S → Option (Ex × List S)} {sl s s' s'' : List S} (h1 : fixS P h.pre sl = some s) (h2 : f s = some (.normal, s')) (h3 : fixS P h.post s' = some s'') : around P h f sl = some (.normal, s'') := by
  simp [around, h1, h2, postS, h3]
theorem around_other {h : HT} {f : List S → Option (Ex × List S)} {sl s s' : List S} {e : Ex} (h1 : fixS P h.pre sl = some s) (h2 : f s = some (e, s')) (hn : e ≠ .normal) : around P h f sl = some (e, s') := by
  cases e with
  | normal => exact absurd rfl hn
  | exit j => simp [around, h1, h2, postS]
  | ret => simp [around, h1, h2, postS]
theorem htSlots_post {h : HT} {x : Nat × Bool} (hx : x ∈ h.post) : x.1 ∈ htSlots h := by
  cases h with
  | z => cases hx
  | n p q l r => simp only [htSlots, List.mem_append]; exact .inl (.inl (.inr (List.mem_map_of_mem hx)))
theorem rfStartK_ok {R : Type} {r : R} {g : Operand} {s : List S} {k : FuncId → List (List V) → List S → Bool → Option R} (h : rfStartK P H g s k = some r) : ∃ f items s1 chk, rfStart P H g s = some (f, items, s1, chk) ∧ k f items s1 chk = some r := by
  unfold rfStartK at h
  unfold rfStart
  split at h
  · rename_i sn f caps hpv
    obtain ⟨hc, h⟩ := ite_ok h
    split at h
    · rename_i items hi
      simp only [hpv, if_pos hc, hi]
      exact ⟨_, _, _, _, rfl, h⟩
    · cases h
  · rename_i hn
    split at h
    · rename_i f x s1 ht
      obtain ⟨hc, h⟩ := ite_ok h
      split at h
      · rename_i items hi
        refine ⟨f, items, s1, true, ?_, h⟩
        split
        · rename_i sn f' caps hpv
          exact absurd hpv (hn _ _ _)
        · simp only [ht, if_pos hc, hi]
      · cases h
    · cases h
theorem itemK_ok {R : Type} {r : R} : ∀ {cs : List Cd} {i : Nat} {x : List V} {k : List V → Option R}, itemK cs i x k = some r → ∃ vs, x.drop i = vs ∧ k vs = some r
  | [], i, x, k, h => by
    simp only [itemK] at h
    split at h
    · rename_i hl
      exact ⟨[], List.drop_eq_nil_of_le (by omega), h⟩
    · cases h
  | c :: cs, i, x, k, h => by
    simp only [itemK, Option.bind_eq_some_iff] at h
    obtain ⟨v, hv, y, hy, h⟩ := h
    obtain ⟨vs, hvs, hk⟩ := itemK_ok h
    refine ⟨v :: vs, ?_, by rw [Cd.get_v hy]; exact hk⟩
    have hi := (List.getElem?_eq_some_iff.1 hv)
    obtain ⟨hlt, he⟩ := hi
    rw [List.drop_eq_getElem_cons hlt, he, hvs]
theorem ev_ok (hsp : SpOk K sp) : ∀ (c : Code) {h : HT} {sl : List S} {R : Type} {k : Ex → List S → Option R} {r : R}, ev P sp H ho me c h sl R k = some r → ∃ e sl', exec P K H me c h sl = some (e, sl') ∧ k e sl' = some r := by
  intro c
  induction c with
  | skip =>
    intro h sl R k r hr
    simp only [ev] at hr
    obtain ⟨s, h1, hr⟩ := onS_ok hr
    obtain ⟨s', h2, hk⟩ := onS_ok hr
    exact ⟨.normal, s', by simp only [exec]; exact around_norm h1 rfl h2, hk⟩
  | exit id =>
    intro h sl R k r hr
    simp only [ev] at hr
    obtain ⟨s, h1, hk⟩ := onS_ok hr
    exact ⟨.exit id, s, by simp only [exec]; exact around_other h1 rfl (by simp), hk⟩
  | ret =>
    intro h sl R k r hr
    simp only [ev] at hr
    obtain ⟨s, h1, hk⟩ := fixSK_ok hr
    exact ⟨.ret, s, by simp only [exec]; exact around_other h1 rfl (by simp), hk⟩
  | region id ops draw =>
    intro h sl R k r hr
    simp only [ev] at hr
    obtain ⟨s, h1, hr⟩ := onS_ok hr
    obtain ⟨s2, s3, h2, h3, hk⟩ := evRegion_ok hsp hr
    rw [forceL_eq] at hk
    exact ⟨.normal, s3, by simp only [exec]; exact around_norm h1 (by rw [h2]) h3, hk⟩
  | seq a b iha ihb =>
    intro h sl R k r hr
    simp only [ev] at hr
    obtain ⟨s, h1, hr⟩ := onS_ok hr
    obtain ⟨e, s1, h2, hr⟩ := iha hr
    split at hr
    · obtain ⟨e', s2, h3, hr⟩ := ihb hr
      split at hr
      · obtain ⟨s3, h4, hk⟩ := onS_ok hr
        exact ⟨.normal, s3, by simp only [exec]; exact around_norm h1 (by rw [h2]; exact h3) h4, hk⟩
      · rename_i hne
        exact ⟨e', s2, by simp only [exec]; exact around_other h1 (by rw [h2]; exact h3) hne, hr⟩
    · rename_i hne
      refine ⟨e, s1, by simp only [exec]; refine around_other h1 ?_ hne; rw [h2]; cases e <;> first | exact absurd rfl hne | rfl, hr⟩
  | block id b ih =>
    intro h sl R k r hr
    simp only [ev] at hr
    obtain ⟨s, h1, hr⟩ := onS_ok hr
    obtain ⟨e, s1, h2, hr⟩ := ih hr
    cases e with
    | normal =>
      obtain ⟨s2, h3, hk⟩ := onS_ok hr
      exact ⟨.normal, s2, by simp only [exec]; exact around_norm h1 (by rw [h2]) h3, hk⟩
    | exit j =>
      dsimp only at hr
      split at hr
      · rename_i hj
        obtain ⟨s2, h3, hk⟩ := onS_ok hr
        exact ⟨.normal, s2, by simp only [exec]; exact around_norm h1 (by rw [h2]; simp [hj]) h3, hk⟩
      · rename_i hj
        exact ⟨.exit j, s1, by simp only [exec]; exact around_other h1 (by rw [h2]; simp [hj]) (by simp), hr⟩
    | ret => exact ⟨.ret, s1, by simp only [exec]; exact around_other h1 (by rw [h2]) (by simp), hr⟩
  | cond c a b iha ihb =>
    intro h sl R k r hr
    simp only [ev] at hr
    obtain ⟨s, h1, hr⟩ := onS_ok hr
    split at hr
    · rename_i t ht
      -- either branch
      have fin : ∀ {e : Ex} {s1 : List S}, (if t then exec P K H me a h.l s else exec P K H me b h.r s) = some (e, s1) → ((e = .normal ∧ ∃ s2, fixS P h.post s1 = some s2 ∧ k .normal s2 = some r) ∨ (e ≠ .normal ∧ k e s1 = some r)) →
          ∃ e sl', exec P K H me (.cond c a b) h sl = some (e, sl') ∧ k e sl' = some r := by
        intro e s1 he hh
        have hx : (match pv s c with | some (.bool t) => if t then exec P K H me a h.l s else exec P K H me b h.r s | _ => none) = some (e, s1) := by rw [ht]; exact he
        rcases hh with ⟨rfl, s2, h3, hk⟩ | ⟨hne, hk⟩
        · exact ⟨.normal, s2, by simp only [exec]; exact around_norm h1 hx h3, hk⟩
        · exact ⟨e, s1, by simp only [exec]; exact around_other h1 hx hne, hk⟩
      split at hr
      · split at hr
        · rename_i D base hD hbase
          split at hr
          · rename_i hck
            simp only [Bool.and_eq_true] at hck
            obtain ⟨hcl, hsb⟩ := hck
            rw [Option.bind_eq_some_iff] at hr
            obtain ⟨x, hx, hr⟩ := hr
            have hcls := clB_spec hcl
            have hpost : ∀ y ∈ h.post, y.1 ∈ reachL s (occ a ++ occ b ++ htSlots h) := fun y hy => reach_mem (List.mem_append_right _ (htSlots_post hy))
            have kb := fixS_kp hcls hpost hbase
            have main : ∃ e s1, (if t then exec P K H me a h.l s else exec P K H me b h.r s) = some (e, s1) ∧ Kp (reachL s (occ a ++ occ b ++ htSlots h)) s s1 ∧
                (match e with | .normal => onS (fixS P h.post s1) fun s'' => if sameB (D.map (·.1)) (reachL s (occ a ++ occ b ++ htSlots h)) (h.post.map (·.1)) s s'' = true then (Ss.get D s'').map Sum.inl else none | e => (k e s1).map Sum.inr) = some x := by
              cases t with
              | true =>
                simp only [if_true] at hx
                obtain ⟨e, s1, h2, h3⟩ := iha hx
                exact ⟨e, s1, by simpa using h2, exec_kp a (fun i hi => reach_mem (by simp [hi])) (fun i hi => reach_mem (by simp [htSlots_l hi])) hcls h2, by cases e <;> exact h3⟩
              | false =>
                simp only [Bool.false_eq_true, if_false] at hx
                obtain ⟨e, s1, h2, h3⟩ := ihb hx
                exact ⟨e, s1, by simpa using h2, exec_kp b (fun i hi => reach_mem (by simp [hi])) (fun i hi => reach_mem (by simp [htSlots_r hi])) hcls h2, by cases e <;> exact h3⟩
            obtain ⟨e, s1, h2, k1, h3⟩ := main
            refine fin h2 ?_
            cases e with
            | normal =>
              left
              refine ⟨rfl, ?_⟩
              obtain ⟨s2, h4, h5⟩ := onS_ok h3
              obtain ⟨hsame, h5⟩ := ite_ok h5
              rw [Option.map_eq_some_iff] at h5
              obtain ⟨y, hy, rfl⟩ := h5
              refine ⟨s2, h4, ?_⟩
              have k2 := k1.trans (fixS_kp k1.cl hpost h4)
              have hput := Ss.get_put (m := base) hy (by rw [kb.len, k2.len]) (same_out (c := base) hsame kb.len (fun i hi hin hrt => by rw [k2.out i hin hrt, kb.out i hin hrt]) (fun i x hi hx hd => by
                have hlt : i < s.length := (List.getElem?_eq_some_iff.1 hx).1
                have := List.all_eq_true.1 hsb i (by simpa using hlt)
                simp only [Bool.or_eq_true, List.contains_iff_mem] at this
                rcases this with h | h
                · exact absurd h hi
                · rw [hx] at h
                  split at h
                  · rename_i q q' e1 e2
                    cases e1
                    rw [if_pos hd] at h
                    rw [e2, isDead_eq h]
                  · cases h) k2.len)
              rw [← hput]; dsimp only at hr; rw [forceL_eq] at hr; exact hr
            | exit j =>
              right
              refine ⟨by simp, ?_⟩
              dsimp only at h3
              rw [Option.map_eq_some_iff] at h3
              obtain ⟨q, hq, rfl⟩ := h3
              simp only [Option.some.injEq] at hr
              subst hr; exact hq
            | ret =>
              right
              refine ⟨by simp, ?_⟩
              dsimp only at h3
              rw [Option.map_eq_some_iff] at h3
              obtain ⟨q, hq, rfl⟩ := h3
              simp only [Option.some.injEq] at hr
              subst hr; exact hq
          · cases hr
        · cases hr
      · have both : ∃ e s1, (if t then exec P K H me a h.l s else exec P K H me b h.r s) = some (e, s1) ∧ (match e with | .normal => onS (fixS P h.post s1) (k .normal) | e => k e s1) = some r := by
          cases t with
          | true =>
            simp only [if_true] at hr
            obtain ⟨e, s1, h2, h3⟩ := iha hr
            exact ⟨e, s1, by simpa using h2, by cases e <;> exact h3⟩
          | false =>
            simp only [Bool.false_eq_true, if_false] at hr
            obtain ⟨e, s1, h2, h3⟩ := ihb hr
            exact ⟨e, s1, by simpa using h2, by cases e <;> exact h3⟩
        obtain ⟨e, s1, h2, h3⟩ := both
        refine fin h2 ?_
        cases e with
        | normal =>
          obtain ⟨s2, h4, hk⟩ := onS_ok h3
          exact .inl ⟨rfl, s2, h4, hk⟩
        | exit j => exact .inr ⟨by simp, h3⟩
        | ret => exact .inr ⟨by simp, h3⟩
    · cases hr
  | loop b ih =>
    intro h sl R k r hr
    simp only [ev] at hr
    obtain ⟨s, h1, hr⟩ := onS_ok hr
    by_cases hun : Nat.ble 1 (H.un me) = true
    · rw [if_pos hun] at hr
      have main : ∀ (n : Nat) (s : List S), unK (fun s k => ev P sp H ho me b h.l s R k) k n s = some r → ∃ m e s', iter (exec P K H me b h.l) m s = some (e, s') ∧ e ≠ .normal ∧ k e s' = some r := by
        intro n
        induction n with
        | zero => intro s h; simp [unK] at h
        | succ n ihn =>
          intro s hy
          simp only [unK, forceL_eq] at hy
          obtain ⟨e, s1, h2, h3⟩ := ih hy
          cases e with
          | normal =>
            obtain ⟨m, e, s', h4, h5, h6⟩ := ihn _ h3
            exact ⟨m + 1, e, s', by simp [iter, h2, h4], h5, h6⟩
          | exit j => exact ⟨1, .exit j, s1, by simp [iter, h2], by simp, h3⟩
          | ret => exact ⟨1, .ret, s1, by simp [iter, h2], by simp, h3⟩
      obtain ⟨m, e, s', h2, h3, h4⟩ := main _ _ hr
      exact ⟨e, s', by simp only [exec]; exact around_other h1 (iter_of h2 h3) h3, h4⟩
    rw [if_neg hun] at hr
    split at hr
    · rename_i D hD
      split at hr
      · rename_i y0 hy0
        obtain ⟨hcl, hr⟩ := ite_ok hr
        have hcls := clB_spec hcl
        rw [loopO_some] at hr
        obtain ⟨n, hn⟩ := hr
        have hs0 : Ss.put D y0 s = s := Ss.get_put (m := s) hy0 rfl fun _ _ => rfl
        have main : ∀ (n : Nat) (y : Ss D), iterO (fun y => forceL (Ss.put D y s) fun s0 => ev P sp H ho me b h.l s0 (Ss D ⊕ R) fun e s' => match e with
            | .normal => if sameB (D.map (·.1)) (reachL s (occ b ++ htSlots h.l)) [] s s' = true then (Ss.get D s').map Sum.inl else none
            | e => (k e s').map Sum.inr) n y = some r → ∃ m e s', iter (exec P K H me b h.l) m (Ss.put D y s) = some (e, s') ∧ e ≠ .normal ∧ k e s' = some r := by
          intro n
          induction n with
          | zero => intro y h; simp [iterO] at h
          | succ n ihn =>
            intro y hy
            simp only [iterO] at hy
            split at hy
            · rename_i y' hb
              rw [forceL_eq] at hb
              obtain ⟨e, s1, h2, h3⟩ := ih hb
              cases e with
              | normal =>
                dsimp only at h3
                obtain ⟨hsame, h3⟩ := ite_ok h3
                rw [Option.map_eq_some_iff] at h3
                obtain ⟨z, hz, he⟩ := h3
                cases he
                have kb := exec_kp b (fun i hi => reach_mem (s := s) (l := occ b ++ htSlots h.l) (by simp [hi])) (fun i hi => reach_mem (by simp [hi])) (put_cl hD hcls y) h2
                have hput := Ss.get_put (m := s) hz (by rw [kb.len, Ss.put_len]) (same_out (c := s) hsame rfl (fun i hi hin hrt => by
                    rw [kb.out i hin (fun x hx => by rw [Ss.put_ne hi] at hx; exact hrt x hx), Ss.put_ne hi]) (fun i x hi hx hd => by
                    have : x.isDead = true := by simpa using hd
                    rw [hx, isDead_eq this]) (by rw [kb.len, Ss.put_len]))
                obtain ⟨m, e, s', h4, h5, h6⟩ := ihn _ hy
                rw [hput] at h4
                exact ⟨m + 1, e, s', by simp [iter, h2, h4], h5, h6⟩
              | exit j => dsimp only at h3; rw [Option.map_eq_some_iff] at h3; obtain ⟨_, _, he⟩ := h3; cases he
              | ret => dsimp only at h3; rw [Option.map_eq_some_iff] at h3; obtain ⟨_, _, he⟩ := h3; cases he
            · rename_i r' hb
              cases hy
              rw [forceL_eq] at hb
              obtain ⟨e, s1, h2, h3⟩ := ih hb
              cases e with
              | normal =>
                dsimp only at h3
                obtain ⟨_, h3⟩ := ite_ok h3
                rw [Option.map_eq_some_iff] at h3; obtain ⟨_, _, he⟩ := h3; cases he
              | exit j =>
                dsimp only at h3; rw [Option.map_eq_some_iff] at h3; obtain ⟨q, hq, he⟩ := h3; cases he
                exact ⟨1, .exit j, s1, by simp [iter, h2], by simp, hq⟩
              | ret =>
                dsimp only at h3; rw [Option.map_eq_some_iff] at h3; obtain ⟨q, hq, he⟩ := h3; cases he
                exact ⟨1, .ret, s1, by simp [iter, h2], by simp, hq⟩
            · cases hy
        obtain ⟨m, e, s', h2, h3, h4⟩ := main n y0 hn
        rw [hs0] at h2
        exact ⟨e, s', by simp only [exec]; exact around_other h1 (iter_of h2 h3) h3, h4⟩
      · cases hr
    · cases hr
  | rangeFunc g ps x b ihx ihb =>
    intro h sl R k r hr
    simp only [ev] at hr
    obtain ⟨s, h1, hr⟩ := onS_ok hr
    obtain ⟨s00, h0, hr⟩ := onS_ok hr
    obtain ⟨f, items, s0, chk, hst, hr⟩ := rfStartK_ok hr
    split at hr
    · rename_i D hD
      split at hr
      · rename_i y0 hy0
        have hr2 := ite_ok hr
        clear hr
        obtain ⟨hcl, hr⟩ := hr2
        have hcls := clB_spec hcl
        rw [loopO_some] at hr
        obtain ⟨n, hn⟩ := hr
        have hs0 : Ss.put D y0 s0 = s0 := Ss.get_put (m := s0) hy0 rfl fun _ _ => rfl
        have fin : ∃ e s', rfRun P chk (rfKill ps.toList x b) ps.toList (exec P K H me x h.l) (exec P K H me b h.r) items (Ss.put D y0 s0) = some (e, s') ∧
            ((e = .normal ∧ ∃ s2, fixS P h.post s' = some s2 ∧ k .normal s2 = some r) ∨ (e ≠ .normal ∧ k e s' = some r)) := by
          clear hst hs0 hy0
          induction n generalizing items y0 with
          | zero => simp [iterO] at hn
          | succ n ihn =>
            simp only [iterO] at hn
            split at hn
            · rename_i z' hb
              cases items with
              | nil =>
                dsimp only at hb
                rw [forceL_eq, Option.map_eq_some_iff] at hb
                obtain ⟨_, _, he⟩ := hb; cases he
              | cons xi its =>
                dsimp only at hb
                rw [forceL_eq] at hb
                obtain ⟨vs, hvs, hb⟩ := itemK_ok hb
                have hvs : xi = vs := by simpa using hvs
                subst hvs
                obtain ⟨s2, h2, hb⟩ := onS_ok hb
                rw [forceL_eq] at hb
                obtain ⟨e3, s3, h3, hb⟩ := ihx hb
                cases e3 with
                | normal =>
                  dsimp only at hb
                  obtain ⟨e4, s4, h4, hb⟩ := ihb hb
                  obtain ⟨s5, h5, hb⟩ := onS_ok hb
                  obtain ⟨hchk, hb⟩ := ite_ok hb
                  cases e4 with
                  | normal =>
                    dsimp only at hb
                    obtain ⟨hsame, hb⟩ := ite_ok hb
                    rw [Option.map_eq_some_iff] at hb
                    obtain ⟨y', hy', he⟩ := hb
                    cases he
                    have kk : Kp (reachL s0 (occ (.rangeFunc g ps x b) ++ htSlots h.l ++ htSlots h.r)) (Ss.put D y0 s0) s5 := by
                      have hc0 := put_cl hD hcls y0
                      have k1 := setPs_kp hc0 (fun p hp => reach_mem (by simp only [occ, List.mem_append]; exact .inl (.inl (.inl (.inl (.inr hp)))))) h2
                      have k2 := exec_kp x (fun i hi => reach_mem (by simp only [occ, List.mem_append]; exact .inl (.inl (.inl (.inr hi))))) (fun i hi => reach_mem (by simp only [List.mem_append]; exact .inl (.inr hi))) k1.cl h3
                      have k3 := exec_kp b (fun i hi => reach_mem (by simp only [occ, List.mem_append]; exact .inl (.inl (.inr hi)))) (fun i hi => reach_mem (by simp only [List.mem_append]; exact .inr hi)) k2.cl h4
                      have k4 := fixS_kp k3.cl (fun y hy => by
                        simp only [rfKill, List.mem_map] at hy
                        obtain ⟨d, hd, rfl⟩ := hy
                        simp only [List.mem_append] at hd
                        refine reach_mem ?_
                        simp only [occ, List.mem_append]
                        rcases hd with (hd | hd) | hd
                        · exact .inl (.inl (.inl (.inl (.inr hd))))
                        · exact .inl (.inl (.inl (.inr (dstsC_occ hd))))
                        · exact .inl (.inl (.inr (dstsC_occ hd)))) h5
                      exact ((k1.trans k2).trans k3).trans k4
                    have hput := Ss.get_put (m := s0) hy' (by rw [kk.len, Ss.put_len]) (same_out (c := s0) hsame rfl (fun i hi hin hrt => by
                        rw [kk.out i hin (fun x hx => by rw [Ss.put_ne hi] at hx; exact hrt x hx), Ss.put_ne hi]) (fun i x hi hx hd => by
                        have : x.isDead = true := by simpa using hd
                        rw [hx, isDead_eq this]) (by rw [kk.len, Ss.put_len]))
                    obtain ⟨e, s', g1, g2⟩ := ihn its y' hn
                    rw [hput] at g1
                    exact ⟨e, s', by simp only [rfRun, h2, h3, h4, h5, if_pos hchk]; exact g1, g2⟩
                  | exit j => dsimp only at hb; rw [Option.map_eq_some_iff] at hb; obtain ⟨_, _, he⟩ := hb; cases he
                  | ret => dsimp only at hb; rw [Option.map_eq_some_iff] at hb; obtain ⟨_, _, he⟩ := hb; cases he
                | exit j => dsimp only at hb; cases hb
                | ret => dsimp only at hb; cases hb
            · rename_i r' hb
              cases hn
              cases items with
              | nil =>
                dsimp only at hb
                rw [forceL_eq, Option.map_eq_some_iff] at hb
                obtain ⟨q, hq, he⟩ := hb; cases he
                obtain ⟨s2, g1, g2⟩ := onS_ok hq
                exact ⟨.normal, _, rfl, .inl ⟨rfl, s2, g1, g2⟩⟩
              | cons xi its =>
                dsimp only at hb
                rw [forceL_eq] at hb
                obtain ⟨vs, hvs, hb⟩ := itemK_ok hb
                have hvs : xi = vs := by simpa using hvs
                subst hvs
                obtain ⟨s2, h2, hb⟩ := onS_ok hb
                rw [forceL_eq] at hb
                obtain ⟨e3, s3, h3, hb⟩ := ihx hb
                cases e3 with
                | normal =>
                  dsimp only at hb
                  obtain ⟨e4, s4, h4, hb⟩ := ihb hb
                  obtain ⟨s5, h5, hb⟩ := onS_ok hb
                  obtain ⟨hchk, hb⟩ := ite_ok hb
                  cases e4 with
                  | normal =>
                    dsimp only at hb
                    obtain ⟨_, hb⟩ := ite_ok hb
                    rw [Option.map_eq_some_iff] at hb; obtain ⟨_, _, he⟩ := hb; cases he
                  | exit j =>
                    dsimp only at hb; rw [Option.map_eq_some_iff] at hb; obtain ⟨q, hq, he⟩ := hb; cases he
                    exact ⟨.exit j, s5, by simp only [rfRun, h2, h3, h4, h5, if_pos hchk], .inr ⟨by simp, hq⟩⟩
                  | ret =>
                    dsimp only at hb; rw [Option.map_eq_some_iff] at hb; obtain ⟨q, hq, he⟩ := hb; cases he
                    exact ⟨.ret, s5, by simp only [rfRun, h2, h3, h4, h5, if_pos hchk], .inr ⟨by simp, hq⟩⟩
                | exit j => dsimp only at hb; cases hb
                | ret => dsimp only at hb; cases hb
            · cases hn
        obtain ⟨e, s', g1, g2⟩ := fin
        rw [hs0] at g1
        have hex : (match fixS P (rfKill ps.toList x b) s with
          | some s0 => match rfStart P H g s0 with
            | some (_, items, s1, chk) => rfRun P chk (rfKill ps.toList x b) ps.toList (exec P K H me x h.l) (exec P K H me b h.r) items s1
            | none => none
          | none => none) = some (e, s') := by
          simp only [h0, hst]; exact g1
        rcases g2 with ⟨rfl, s2, g3, g4⟩ | ⟨hne, g3⟩
        · exact ⟨.normal, s2, by simp only [exec]; exact around_norm h1 hex g3, g4⟩
        · exact ⟨e, s', by simp only [exec]; exact around_other h1 hex hne, g3⟩
      · cases hr
    · cases hr
  | _ => intro h sl R k r hr; simp only [ev] at hr; cases hr
theorem stabL_map : ∀ {l : List V}, T.stabL (l.map T.p) = V.stabL l
  | [] => rfl
  | v :: l => by simp only [List.map_cons, T.stabL, V.stabL, T.stab, stabL_map]
theorem self_map {l : List V} : (l.map T.p).any T.isSelf = false := by
  rw [List.any_eq_false]
  intro x hx
  obtain ⟨v, _, rfl⟩ := List.mem_map.1 hx
  simp [T.isSelf]
theorem retK_ok {n : Nat} {sl : List S} {v : ResultVar} {R : Type} {k : T → List S → Option R} {r : R} (h : retK P n sl v k = some r) : ∃ x sl', retT P n sl v = some (x, sl') ∧ k x sl' = some r := by
  have gen : (match retT P n sl v with | some (x, sl') => k x sl' | none => none) = some r → ∃ x sl', retT P n sl v = some (x, sl') ∧ k x sl' = some r := by
    intro h
    split at h
    · rename_i x sl' hx; exact ⟨x, sl', hx, h⟩
    · cases h
  unfold retK at h
  cases v with
  | tmp t =>
    dsimp only at h
    split at h
    · rename_i v hs
      obtain ⟨hc, hk⟩ := ite_ok h
      exact ⟨_, _, by simp [retT, hs, hc], hk⟩
    · exact gen h
  | cell t ty =>
    dsimp only at h
    split at h
    · rename_i ty' cs hs
      split at h
      · rename_i ha
        split at h
        · rename_i nn e hu
          split at h
          · rw [Option.bind_eq_some_iff] at h
            obtain ⟨l, hl, h⟩ := h
            obtain ⟨h1, h⟩ := ite_ok h
            obtain ⟨h2, hk⟩ := ite_ok h
            have hm := pures_map hl
            subst hm
            exact ⟨_, _, by simp only [retT, hs]; rw [if_pos ha, if_pos ⟨by simpa using h1.1, by simp only [List.length_map]; omega, by rw [stabL_map]; exact h2, self_map⟩, hl], hk⟩
          · obtain ⟨h1, h⟩ := ite_ok h
            obtain ⟨h2, h⟩ := ite_ok h
            rw [Option.bind_eq_some_iff] at h
            obtain ⟨l, hl, hk⟩ := h
            exact ⟨_, _, by simp only [retT, hs]; rw [if_pos ha, if_pos ⟨h1.1, h1.2, h2.1, h2.2⟩, hl], hk⟩
        · exact gen h
      · exact gen h
    · exact gen h
theorem retAllK_ok {n : Nat} : ∀ {vs : List ResultVar} {sl : List S} {R : Type} {k : List T → List S → Option R} {r : R}, retAllK P n sl vs k = some r → ∃ xs sl', retAll P n sl vs = some (xs, sl') ∧ k xs sl' = some r
  | [], sl, R, k, r, h => ⟨[], sl, rfl, h⟩
  | v :: vs, sl, R, k, r, h => by
    simp only [retAllK] at h
    obtain ⟨x, s1, h1, h⟩ := retK_ok h
    obtain ⟨xs, s2, h2, hk⟩ := retAllK_ok h
    exact ⟨_, _, by simp [retAll, h1, h2], hk⟩
theorem outsK_ok : ∀ {l : List S} {R : Type} {k : List T → Option R} {r : R}, outsK l k = some r → ∃ outs, outsOf l = some outs ∧ k outs = some r
  | [], R, k, r, h => ⟨[], rfl, h⟩
  | s :: l, R, k, r, h => by
    cases s with
    | t x =>
      cases x with
      | dead =>
        simp only [outsK] at h
        obtain ⟨o, h1, h2⟩ := outsK_ok h
        exact ⟨_, by simp [outsOf, h1], h2⟩
      | _ =>
        simp only [outsK] at h
        obtain ⟨hc, h⟩ := ite_ok h
        obtain ⟨o, h1, h2⟩ := outsK_ok h
        exact ⟨_, by simp [outsOf, h1, hc], h2⟩
    | _ => simp [outsK] at h
theorem evF_ok (hsp : SpOk K sp) {f : FuncId} {args : List Arg} {R : Type} {k : T → List T → Option R} {r : R} (h : evF P sp H ho f args R k = some r) : ∃ x outs, runF P K H f args = some (x, outs) ∧ k x outs = some r := by
  unfold evF at h
  split at h
  · rename_i fn hf
    split at h
    · rename_i c hb
      obtain ⟨hc, h⟩ := ite_ok h
      obtain ⟨e, s, h1, h⟩ := ev_ok hsp c h
      have go : (retAllK P fn.ntmps s fn.results.toList fun rs s' => outsK (s'.drop fn.ntmps) fun outs => k (oneT rs) outs) = some r → (e = .normal ∨ e = .ret) → ∃ x outs, runF P K H f args = some (x, outs) ∧ k x outs = some r := by
        intro h he
        obtain ⟨rs, s', h2, h⟩ := retAllK_ok h
        obtain ⟨outs, h3, hk⟩ := outsK_ok h
        refine ⟨oneT rs, outs, ?_, hk⟩
        simp only [runF, hf, hb]
        rw [if_pos hc, h1]
        rcases he with rfl | rfl <;> simp [h2, h3]
      cases e with
      | normal => exact go h (.inl rfl)
      | exit j => cases h
      | ret => exact go h (.inr rfl)
    · cases h
  · cases h
end
end Go.Proofs.Ytffofdfikmpanaa.A
namespace Go.Proofs.Ytffofdfikmpanaa.A
set_option linter.unusedVariables false
@[reducible] def nilV : List V := []
@[reducible] def nilB : List UInt8 := []
@[reducible] def nilT : List T := []
@[reducible] def all (l : List V) : List V := List.take (List.length l) (List.drop 0 l)
theorem all_eq (l : List V) : all l = l := by unfold all; rw [List.drop_zero, List.take_length]
@[reducible] def len {α : Type} (l : List α) : Int := ((List.length l : Nat) : Int)
@[reducible] def w64 (n : Int) : Int := IntKind.i64.wrap n
@[reducible] def wu8 (n : Int) : Int := IntKind.u8.wrap n
@[reducible] def wu32 (n : Int) : Int := IntKind.u32.wrap n
@[reducible] def wu64 (n : Int) : Int := IntKind.u64.wrap n
@[reducible] def idI (n : Int) : Int := n
@[reducible] def idN (n : Nat) : Nat := n
@[reducible] def rep {α : Type} (n : Nat) (x : α) : List α := List.replicate n x
@[reducible] def by8 (l : List Nat) : List UInt8 := l.map UInt8.ofNat
inductive Pc where
  | v (c : Cd)
  | mv (e : TypeId)
  | nd (ty : TypeId) (cs : List Tc)
  | ndR (ty : TypeId) (cs : List Tr)
  | ndO (ty : TypeId)
  | io (e : TypeId)
@[reducible] def Pc.I : Pc → Type
  | .v c => c.I
  | .mv _ => List V
  | .nd _ cs => Ts cs
  | .ndR _ cs => Trs cs
  | .ndO _ => List T
  | .io _ => List V × Nat × Nat
def Pc.mk : (c : Pc) → c.I → Arg
  | .v c, y => .v (c.v y)
  | .mv e, l => .mv (.own e l)
  | .nd ty cs, y => .io (.opt ty (Ts.mk cs y)) .pt
  | .ndR ty cs, y => .io (.opt ty (Trs.mk cs y)) .pt
  | .ndO ty, l => .io (.opt ty l) .pt
  | .io e, y => .io (.own e y.1) (.sl y.2.1 y.2.2)
def Pc.get : (c : Pc) → Arg → Option c.I
  | .v c, a => match a with | .v x => c.get x | _ => none
  | .mv e, a => match a with | .mv x => x.own? e | _ => none
  | .nd ty cs, a => match a with | .io (.opt ty' l) .pt => if ty' = ty then Ts.get cs l else none | _ => none
  | .ndR ty cs, a => match a with | .io (.opt ty' l) .pt => if ty' = ty then Trs.get cs l else none | _ => none
  | .ndO ty, a => match a with | .io (.opt ty' l) .pt => if ty' = ty then some l else none | _ => none
  | .io e, a => match a with | .io (.own e' l) (.sl o n) => if e' = e then some (l, o, n) else none | _ => none
theorem Pc.get_mk {c : Pc} {a : Arg} {y : c.I} (h : c.get a = some y) : a = c.mk y := by
  cases c with
  | v c =>
    cases a <;> simp only [Pc.get] at h <;> first | cases h | (simp only [Pc.mk]; rw [Cd.get_v h])
  | mv e =>
    cases a with
    | mv x => cases x <;> simp_all [Pc.get, Pc.mk, T.own?]
    | _ => simp [Pc.get] at h
  | nd ty cs =>
    simp only [Pc.get] at h
    split at h
    · split at h
      · rename_i he; subst he; simp only [Pc.mk]; rw [Ts.get_mk h]
      · cases h
    · cases h
  | ndR ty cs =>
    simp only [Pc.get] at h
    split at h
    · split at h
      · rename_i he; subst he; simp only [Pc.mk]; rw [Trs.get_mk h]
      · cases h
    · cases h
  | ndO ty =>
    simp only [Pc.get] at h
    split at h
    · split at h
      · rename_i he; subst he; cases h; rfl
      · cases h
    · cases h
  | io e =>
    simp only [Pc.get] at h
    split at h
    · split at h
      · rename_i he; subst he; cases h; rfl
      · cases h
    · cases h
@[reducible] def Ps : List Pc → Type
  | [] => Unit
  | [c] => c.I
  | c :: d :: r => c.I × Ps (d :: r)
def Ps.mk : (cs : List Pc) → Ps cs → List Arg
  | [], _ => []
  | [c], y => [c.mk y]
  | c :: d :: r, y => c.mk y.1 :: Ps.mk (d :: r) y.2
def Ps.get : (cs : List Pc) → List Arg → Option (Ps cs)
  | [], l => match l with | [] => some () | _ => none
  | [c], l => match l with | [t] => c.get t | _ => none
  | c :: d :: r, l => match l with
    | t :: ts => (c.get t).bind fun y => (Ps.get (d :: r) ts).bind fun z => some (y, z)
    | [] => none
theorem Ps.get_mk : ∀ {cs : List Pc} {l : List Arg} {y : Ps cs}, Ps.get cs l = some y → l = Ps.mk cs y
  | [], l, y, h => by cases l <;> simp_all [Ps.get, Ps.mk]
  | [c], l, y, h => by
    match l with
    | [] => simp [Ps.get] at h
    | [t] => simp only [Ps.get] at h; simp only [Ps.mk]; rw [Pc.get_mk h]
    | _ :: _ :: _ => simp [Ps.get] at h
  | c :: d :: r, l, y, h => by
    match l with
    | [] => simp [Ps.get] at h
    | t :: ts =>
      simp only [Ps.get, Option.bind_eq_some_iff] at h
      obtain ⟨a, ha, b, hb, he⟩ := h
      cases he
      simp only [Ps.mk]
      rw [Pc.get_mk ha, Ps.get_mk hb]
inductive Oc where
  | t (c : Tc)
  | nd (ty : TypeId) (cs : List Tc)
  | ndR (ty : TypeId) (cs : List Tr)
  | ndO (ty : TypeId)
@[reducible] def Oc.I : Oc → Type
  | .t c => c.I
  | .nd _ cs => Ts cs
  | .ndR _ cs => Trs cs
  | .ndO _ => List T
def Oc.mk : (c : Oc) → c.I → T
  | .t c, y => c.mk y
  | .nd ty cs, y => .opt ty (Ts.mk cs y)
  | .ndR ty cs, y => .opt ty (Trs.mk cs y)
  | .ndO ty, l => .opt ty l
def Oc.get : (c : Oc) → T → Option c.I
  | .t c, x => c.get x
  | .nd ty cs, x => match x with | .opt ty' l => if ty' = ty then Ts.get cs l else none | _ => none
  | .ndR ty cs, x => match x with | .opt ty' l => if ty' = ty then Trs.get cs l else none | _ => none
  | .ndO ty, x => match x with | .opt ty' l => if ty' = ty then some l else none | _ => none
theorem Oc.get_mk {c : Oc} {x : T} {y : c.I} (h : c.get x = some y) : x = c.mk y := by
  cases c with
  | t c => exact Tc.get_mk h
  | nd ty cs =>
    simp only [Oc.get] at h
    split at h
    · split at h
      · rename_i he; subst he; simp only [Oc.mk]; rw [Ts.get_mk h]
      · cases h
    · cases h
  | ndR ty cs =>
    simp only [Oc.get] at h
    split at h
    · split at h
      · rename_i he; subst he; simp only [Oc.mk]; rw [Trs.get_mk h]
      · cases h
    · cases h
  | ndO ty =>
    simp only [Oc.get] at h
    split at h
    · split at h
      · rename_i he; subst he; cases h; rfl
      · cases h
    · cases h
@[reducible] def Os : List Oc → Type
  | [] => Unit
  | [c] => c.I
  | c :: d :: r => c.I × Os (d :: r)
def Os.mk : (cs : List Oc) → Os cs → List T
  | [], _ => []
  | [c], y => [c.mk y]
  | c :: d :: r, y => c.mk y.1 :: Os.mk (d :: r) y.2
def Os.get : (cs : List Oc) → List T → Option (Os cs)
  | [], l => match l with | [] => some () | _ => none
  | [c], l => match l with | [t] => c.get t | _ => none
  | c :: d :: r, l => match l with
    | t :: ts => (c.get t).bind fun y => (Os.get (d :: r) ts).bind fun z => some (y, z)
    | [] => none
theorem Os.get_mk : ∀ {cs : List Oc} {l : List T} {y : Os cs}, Os.get cs l = some y → l = Os.mk cs y
  | [], l, y, h => by cases l <;> simp_all [Os.get, Os.mk]
  | [c], l, y, h => by
    match l with
    | [] => simp [Os.get] at h
    | [t] => simp only [Os.get] at h; simp only [Os.mk]; rw [Oc.get_mk h]
    | _ :: _ :: _ => simp [Os.get] at h
  | c :: d :: r, l, y, h => by
    match l with
    | [] => simp [Os.get] at h
    | t :: ts =>
      simp only [Os.get, Option.bind_eq_some_iff] at h
      obtain ⟨a, ha, b, hb, he⟩ := h
      cases he
      simp only [Os.mk]
      rw [Oc.get_mk ha, Os.get_mk hb]
inductive Rn where
  | one (c : Oc)
  | tup (cs : List Oc)
@[reducible] def Rn.I : Rn → Type
  | .one c => c.I
  | .tup cs => Os cs
def Rn.mk : (c : Rn) → c.I → T
  | .one c, y => c.mk y
  | .tup cs, y => .tup (Os.mk cs y)
def Rn.get : (c : Rn) → T → Option c.I
  | .one c, x => c.get x
  | .tup cs, x => match x with | .tup l => Os.get cs l | _ => none
theorem Rn.get_mk {c : Rn} {x : T} {y : c.I} (h : c.get x = some y) : x = c.mk y := by
  cases c with
  | one c => exact Oc.get_mk h
  | tup cs =>
    cases x <;> simp only [Rn.get] at h <;> first | cases h | (simp only [Rn.mk]; rw [Os.get_mk h])
inductive Rc where
  | pure (r : Rn) (n : Nat)
  | io (r : Rn) (os : List Oc)
@[reducible] def Rc.I : Rc → Type
  | .pure r _ => r.I
  | .io r os => r.I × Os os
def Rc.mk : (c : Rc) → c.I → T × List T
  | .pure r n, y => (r.mk y, List.replicate n .dead)
  | .io r os, y => (r.mk y.1, Os.mk os y.2)
def allDead : Nat → List T → Bool
  | 0, [] => true
  | n + 1, .dead :: r => allDead n r
  | _, _ => false
theorem allDead_eq : ∀ {n : Nat} {l : List T}, allDead n l = true → l = List.replicate n .dead
  | 0, [], _ => rfl
  | n + 1, x :: l, h => by
    cases x <;> simp [allDead] at h
    rw [allDead_eq h]; rfl
  | 0, _ :: _, h => by simp [allDead] at h
  | n + 1, [], h => by simp [allDead] at h
def Rc.get : (c : Rc) → T → List T → Option c.I
  | .pure r n, x, l => if allDead n l then r.get x else none
  | .io r os, x, l => (r.get x).bind fun y => (Os.get os l).bind fun z => some (y, z)
theorem Rc.get_mk {c : Rc} {x : T} {l : List T} {y : c.I} (h : c.get x l = some y) : (x, l) = c.mk y := by
  cases c with
  | pure r n =>
    simp only [Rc.get] at h
    split at h
    · rename_i hd
      simp only [Rc.mk]; rw [Rn.get_mk h, allDead_eq hd]
    · cases h
  | io r os =>
    simp only [Rc.get, Option.bind_eq_some_iff] at h
    obtain ⟨a, ha, b, hb, he⟩ := h
    cases he
    simp only [Rc.mk]; rw [Rn.get_mk ha, Os.get_mk hb]
structure Fn where
  f : FuncId
  ps : List Pc
  rc : Rc
  F : Ps ps → Option rc.I
def Good (K : Oracle) (g : Fn) : Prop := ∀ x y, g.F x = some y → K g.f (Ps.mk g.ps x) = some (g.rc.mk y)
def spOf : List Fn → Sp
  | [], _, _ => none
  | g :: r, f, args => if g.f = f then some fun _ k => ((Ps.get g.ps args).bind g.F).bind fun y => k (g.rc.mk y).1 (g.rc.mk y).2 else spOf r f args
theorem spOk {K : Oracle} : ∀ {l : List Fn}, (∀ g ∈ l, Good K g) → SpOk K (spOf l)
  | [], _ => fun f args c R k r h => by simp [spOf] at h
  | g :: l, hl => fun f args c R k r h hr => by
    simp only [spOf] at h
    split at h
    · rename_i hf
      subst hf
      cases h
      rw [Option.bind_eq_some_iff] at hr
      obtain ⟨y, hy, hr⟩ := hr
      rw [Option.bind_eq_some_iff] at hy
      obtain ⟨x, hx, hy⟩ := hy
      rw [Ps.get_mk hx]
      exact ⟨_, _, hl g (by simp) x y hy, hr⟩
    · exact spOk (fun g hg => hl g (List.mem_cons_of_mem _ hg)) f args c R k r h hr
abbrev Told := FuncId → Option (List Arg → Option (T × List T))
theorem good_of {P : Program} {H : Hints} {sp0 : Told} {ho : Ho} {n : Nat} {l : List Fn} {g : Fn} (hs : sp0 g.f = none) (hl : ∀ g ∈ l, Good (callN P H sp0 n) g)
    (he : ∀ x, evF P (spOf l) H ho g.f (Ps.mk g.ps x) g.rc.I (fun t o => g.rc.get t o) = g.F x) : Good (callN P H sp0 (n + 1)) g := by
  intro x y hy
  rw [← he x] at hy
  obtain ⟨t, o, h1, h2⟩ := evF_ok (spOk hl) hy
  have := Rc.get_mk h2
  simp only [callN, hs, h1, this]
def GoodAt (P : Program) (H : Hints) (sp0 : Told) (d : Nat) (g : Fn) : Prop := ∀ n, d ≤ n → Good (callN P H sp0 n) g
theorem goodAt_of {P : Program} {H : Hints} {sp0 : Told} {ho : Ho} {d : Nat} {l : List Fn} {g : Fn} (hs : sp0 g.f = none) (hl : ∀ g ∈ l, GoodAt P H sp0 d g)
    (he : ∀ x, evF P (spOf l) H ho g.f (Ps.mk g.ps x) g.rc.I (fun t o => g.rc.get t o) = g.F x) : GoodAt P H sp0 (d + 1) g := by
  intro n hn
  obtain ⟨m, rfl⟩ : ∃ m, n = m + 1 := ⟨n - 1, by omega⟩
  exact good_of hs (fun g hg => hl g hg m (by omega)) he
theorem goodAt_told {P : Program} {H : Hints} {sp0 : Told} {G : List Arg → Option (T × List T)} {g : Fn} (hs : sp0 g.f = some G) (he : ∀ x y, g.F x = some y → G (Ps.mk g.ps x) = some (g.rc.mk y)) : GoodAt P H sp0 1 g := by
  intro n hn
  obtain ⟨m, rfl⟩ : ∃ m, n = m + 1 := ⟨n - 1, by omega⟩
  intro x y hy
  simp only [callN, hs]
  exact he x y hy
def bSt (e : TypeId) (b : Bool) (o : Option (List V)) : List T := [npT b, onT e o]
theorem hl0 {P : Program} {H : Hints} {sp0 : Told} {d : Nat} : ∀ g ∈ ([] : List Fn), GoodAt P H sp0 d g := fun _ h => by cases h
theorem hl1 {P : Program} {H : Hints} {sp0 : Told} {d : Nat} {a : Fn} {r : List Fn} (h : GoodAt P H sp0 d a) (hr : ∀ g ∈ r, GoodAt P H sp0 d g) : ∀ g ∈ a :: r, GoodAt P H sp0 d g := fun g hg => (List.mem_cons.1 hg).elim (fun e => e ▸ h) (hr g)
def HT.addPre (fz : List (Nat × Bool)) : Code → HT → HT
  | .ret, h => .n (h.pre ++ fz) h.post h.l h.r
  | .seq a b, h => .n h.pre h.post (addPre fz a h.l) (addPre fz b h.r)
  | .cond _ a b, h => .n h.pre h.post (addPre fz a h.l) (addPre fz b h.r)
  | .block _ b, h => .n h.pre h.post (addPre fz b h.l) h.r
  | .loop b, h => .n h.pre h.post (addPre fz b h.l) h.r
  | _, h => h
def HT.addReg (d : Nat) : Code → HT → HT
  | .region _ ops _, h => if ops.any (fun o => o.dst == some d) then .n h.pre (h.post ++ [(d, true)]) h.l h.r else h
  | .seq a b, h => .n h.pre h.post (addReg d a h.l) (addReg d b h.r)
  | .cond _ a b, h => .n h.pre h.post (addReg d a h.l) (addReg d b h.r)
  | .block _ b, h => .n h.pre h.post (addReg d b h.l) h.r
  | .loop b, h => .n h.pre h.post (addReg d b h.l) h.r
  | _, h => h
def funcHTz (fz : List Nat) (fn : Func) : HT := match fz with
  | [] => funcHT fn
  | _ => match fn.body with
    | some c => (fz.filter fun d => decide (2000000 ≤ d)).foldl (fun h d => HT.addReg (d - 2000000) c h) (HT.addPre ((fz.filter fun d => decide (d < 2000000)).map (·, true)) c (funcHT fn))
    | none => .z
theorem GoodAt.up {P : Program} {H : Hints} {sp0 : Told} {d d' : Nat} {g : Fn} (h : GoodAt P H sp0 d g) (hd : d ≤ d') : GoodAt P H sp0 d' g := fun n hn => h n (by omega)
end Go.Proofs.Ytffofdfikmpanaa.A
namespace Go.Proofs.Ytffofdfikmpanaa.A
set_option linter.unusedVariables false
set_option linter.unusedSimpArgs false
theorem loopO_eq {σ R : Type} (f : σ → Option (σ ⊕ R)) (s : σ) : loopO f s = match f s with | some (.inl s') => loopO f s' | some (.inr r) => some r | none => none := by
  have key : ∀ r, loopO f s = some r ↔ (match f s with | some (.inl s') => loopO f s' | some (.inr r) => some r | none => none) = some r := by
    intro r
    rw [loopO_some]
    constructor
    · rintro ⟨n, hn⟩
      cases n with
      | zero => simp [iterO] at hn
      | succ n =>
        simp only [iterO] at hn
        split at hn
        · rename_i s' hs; first | exact loopO_some.2 ⟨n, hn⟩ | (simp only [hs]; exact loopO_some.2 ⟨n, hn⟩)
        · rename_i r' hs; simpa [hs] using hn
        · cases hn
    · intro h
      split at h
      · rename_i s' hs
        obtain ⟨n, hn⟩ := loopO_some.1 h
        exact ⟨n + 1, by simp only [iterO, hs]; exact hn⟩
      · rename_i r' hs
        cases h
        exact ⟨1, by simp only [iterO, hs]⟩
      · cases h
  cases h1 : loopO f s with
  | some r => exact ((key r).1 h1).symm
  | none =>
    cases h2 : (match f s with | some (.inl s') => loopO f s' | some (.inr r) => some r | none => none) with
    | some r => rw [(key r).2 h2] at h1; cases h1
    | none => rfl
theorem loopO_inl {σ R : Type} {f : σ → Option (σ ⊕ R)} {s s' : σ} (h : f s = some (.inl s')) : loopO f s = loopO f s' := by rw [loopO_eq, h]
theorem loopO_inr {σ R : Type} {f : σ → Option (σ ⊕ R)} {s : σ} {r : R} (h : f s = some (.inr r)) : loopO f s = some r := by rw [loopO_eq, h]
theorem loopO_run {σ R : Type} {f : σ → Option (σ ⊕ R)} {ι : Type} (st : ι → σ) (res : ι → R) (ok : ι → Prop) (m : ι → Nat)
    (hs : ∀ i, ok i → (∃ j, f (st i) = some (.inl (st j)) ∧ ok j ∧ m j < m i ∧ res j = res i) ∨ f (st i) = some (.inr (res i))) (i : ι) (hi : ok i) : loopO f (st i) = some (res i) := by
  have : ∀ n i, m i < n → ok i → loopO f (st i) = some (res i) := by
    intro n
    induction n with
    | zero => intro i h; omega
    | succ n ih =>
      intro i h hi
      rcases hs i hi with ⟨j, h1, h2, h3, h4⟩ | h1
      · rw [loopO_inl h1, ih j (by omega) h2, h4]
      · exact loopO_inr h1
  exact this _ i (Nat.lt_succ_self _) hi
@[simp] theorem bytesV_nil : bytesV [] = [] := rfl
@[simp] theorem bytesV_cons (b : UInt8) (l : List UInt8) : bytesV (b :: l) = byteV b :: bytesV l := rfl
@[simp] theorem bytesV_length (l : List UInt8) : (bytesV l).length = l.length := by simp [bytesV]
theorem bytesV_append (l m : List UInt8) : bytesV (l ++ m) = bytesV l ++ bytesV m := by simp [bytesV]
theorem bytesV_take (n : Nat) (l : List UInt8) : (bytesV l).take n = bytesV (l.take n) := by simp [bytesV, List.map_take]
theorem bytesV_drop (n : Nat) (l : List UInt8) : (bytesV l).drop n = bytesV (l.drop n) := by simp [bytesV, List.map_drop]
theorem bytesV_get (n : Nat) (l : List UInt8) : (bytesV l)[n]? = (l[n]?).map byteV := by simp [bytesV]
theorem unbyte_byteV (b : UInt8) : unbyte (byteV b) = some b := by simp [byteV, unbyte]
@[simp] theorem unbytes_bytesV (l : List UInt8) : unbytes (bytesV l) = some l := by
  induction l with
  | nil => rfl
  | cons b l ih => simp [bytesV_cons, unbytes, unbyte_byteV, ih]
@[simp] theorem byteV_cells (b : UInt8) : (byteV b).cells = [byteV b] := rfl
@[simp] theorem byteV_int (b : UInt8) : (byteV b).int? .u8 = some (b.toNat : Int) := by simp [byteV, V.int?]
theorem u8_lt (b : UInt8) : b.toNat < 256 := b.toNat_lt
theorem wrap_nat {n : Nat} (h : n < 9223372036854775808) : IntKind.i64.wrap (n : Int) = (n : Int) := IntWalk.i64_in _ (by omega)
theorem wrap_u8 (n : Nat) : IntKind.u8.wrap (n : Int) = ((n % 256 : Nat) : Int) := by rw [IntKind.wrap_u8]; omega
theorem wrap_in {n : Int} (h1 : -9223372036854775808 ≤ n) (h2 : n ≤ 9223372036854775807) : IntKind.i64.wrap n = n := IntWalk.i64_in n ⟨h1, h2⟩
@[simp] theorem bSt_length (e : TypeId) (b : Bool) (o : Option (List V)) : (bSt e b o).length = 2 := rfl
end Go.Proofs.Ytffofdfikmpanaa.A
