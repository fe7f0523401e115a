/- The layer A, part 2: operations that change slots are sound. Conditions: none. -/
import Derived.Test.YtffofdfikmpanaaLA
import Derived.Laws.IdiomCopy
import Derived.Deep.DeepAppendWide
import Derived.Laws.Tables
import Derived.Laws.MakeOwn
import Derived.Laws.IdiomStrings
import Derived.Great.BuildSlice
import Derived.Lib.UnsafeStr
set_option linter.unusedVariables false
set_option linter.unusedSimpArgs false
set_option linter.constructorNameAsVariable false
set_option linter.unusedSectionVars false
namespace Go.Proofs.Ytffofdfikmpanaa.A
set_option linter.unusedVariables false
set_option linter.unusedSimpArgs false
def S.killBy (kp : Pl → Bool) : S → S
  | .t x => .t x
  | .bsl q off len e => if kp q then .bsl q off len e else .t .dead
  | .bpt q i j => if kp q then .bpt q i j else .t .dead
  | .bar q j sz len => if kp q then .bar q j sz len else .t .dead
  | .bfn f caps => if caps.all kp then .bfn f caps else .t .dead
  | .bfc ty q => if kp q then .bfc ty q else .t .dead
theorem kill_eq (p : Pl) (k : Bool) (s : S) : S.kill p k s = S.killBy (p.keep k) s := by cases s <;> rfl
theorem killBy_and (kp kq : Pl → Bool) (s : S) : S.killBy kp (S.killBy kq s) = S.killBy (fun q => kp q && kq q) s := by
  cases s with
  | t x => rfl
  | bfn f caps =>
    simp only [S.killBy]
    by_cases h : caps.all kq = true
    · rw [if_pos h]
      simp only [S.killBy]
      by_cases h' : caps.all kp = true
      · rw [if_pos h', if_pos (by rw [List.all_eq_true] at *; intro x hx; simp [h x hx, h' x hx])]
      · rw [if_neg h', if_neg (by intro hh; apply h'; rw [List.all_eq_true] at *; intro x hx; have := hh x hx; simp at this; exact this.1)]
    · rw [if_neg h, if_neg (by intro hh; apply h; rw [List.all_eq_true] at *; intro x hx; have := hh x hx; simp at this; exact this.2)]
  | bsl q off len e => by_cases hq : kq q = true <;> by_cases hp : kp q = true <;> simp [S.killBy, hp, hq]
  | bpt q i j => by_cases hq : kq q = true <;> by_cases hp : kp q = true <;> simp [S.killBy, hp, hq]
  | bar q j sz len => by_cases hq : kq q = true <;> by_cases hp : kp q = true <;> simp [S.killBy, hp, hq]
  | bfc ty q => by_cases hq : kq q = true <;> by_cases hp : kp q = true <;> simp [S.killBy, hp, hq]
theorem killBy_true (s : S) : S.killBy (fun _ => true) s = s := by cases s <;> simp [S.killBy]
section
variable {P : Program}
theorem Rel.upd {w w' : World} {X : Nat → Prop} {sl sl' : List S} {cv cv' : List Value} {F F' : Nat → Nat → Prop} (R : Rel P w X sl cv F) (D : Nat → Prop) (kp : Pl → Bool)
    (hl : sl'.length = sl.length) (hlc : cv'.length = cv.length)
    (hsl : ∀ i, ¬ D i → sl'[i]? = (sl[i]?).map (S.killBy kp)) (hcv : ∀ i, ¬ D i → cv'[i]? = cv[i]?) (hF0 : ∀ i, ¬ D i → ∀ b, F' i b ↔ F i b)
    (hw : Turns w w' (fun b => ∃ d, D d ∧ F d b)) (hF : ∀ d, D d → ∀ b, F' d b → (∃ e, D e ∧ F e b) ∨ w.heap.size ≤ b) (hlt : ∀ d, D d → ∀ b, F' d b → b < w'.heap.size)
    (hdis : ∀ d e b, D d → D e → F' d b → F' e b → d = e)
    (hborrow : ∀ (q : Pl) (z : T) (cz : Value), D q.s → kp q = true → slAt sl q = some z → cvAt w cv q = some cz → (∀ v, z ≠ .p v) →
      ∃ z', slAt sl' q = some z' ∧ z.like z' ∧ cvAt w' cv' q = some cz)
    (hs : ∀ d s c, D d → sl'[d]? = some s → cv'[d]? = some c → SRep P w' (zs w' X F') (zx w' F') sl' cv' s c (F' d)) :
    Rel P w' X sl' cv' F' := by
  have own_old : ∀ i b, F' i b → (∃ e, F e b ∧ (D i ↔ D e) ∧ (¬ D i → e = i)) ∨ w.heap.size ≤ b := by
    intro i b h
    by_cases hi : D i
    · rcases hF i hi b h with ⟨e, he, hb⟩ | hb
      · exact .inl ⟨e, hb, ⟨fun _ => he, fun _ => hi⟩, fun hn => absurd hi hn⟩
      · exact .inr hb
    · exact .inl ⟨i, (hF0 i hi b).1 h, Iff.rfl, fun _ => rfl⟩
  have hzx : ∀ b, zx w F b → zx w' F' b := fun b hb => ⟨Nat.lt_of_lt_of_le hb.1 hw.size, fun i h => by
    rcases own_old i b h with ⟨e, he, _⟩ | hh
    · exact hb.2 e he
    · have := hb.1; omega⟩
  have hzs : ∀ b, zs w X F b → zs w' X F' b := fun b hb => ⟨hzx b hb.1, hb.2⟩
  have hstay : ∀ b, zx w F b → w'.heap[b]? = w.heap[b]? := fun b hb => hw.block b hb.1 fun ⟨d, _, h⟩ => hb.2 d h
  have hother : ∀ i, ¬ D i → ∀ b, F i b → w'.heap[b]? = w.heap[b]? := fun i hi b hb => hw.block b (R.lt i b hb) fun ⟨d, hd, h⟩ => hi (R.disj i d b hb h ▸ hd)
  have keep : ∀ (q : Pl) (z : T) (cz : Value), kp q = true → slAt sl q = some z → cvAt w cv q = some cz → (∀ v, z ≠ .p v) →
      ∃ z', slAt sl' q = some z' ∧ (z = z' ∨ z.like z') ∧ cvAt w' cv' q = some cz := by
    intro q z cz hk hz hc hn
    by_cases hq : D q.s
    · obtain ⟨z', h1, h2, h3⟩ := hborrow q z cz hq hk hz hc hn
      exact ⟨z', h1, .inr h2, h3⟩
    · refine ⟨z, ?_, .inl rfl, ?_⟩
      · simp only [slAt] at hz ⊢
        rw [hsl _ hq]
        cases hs0 : sl[q.s]? with
        | none => simp [hs0] at hz
        | some s => cases s <;> simp [hs0, S.killBy] at hz ⊢; exact hz
      · have := R.far hz hc hn (hother q.s hq) hstay
        simp only [cvAt] at this ⊢
        rw [hcv _ hq]; exact this
  refine ⟨by rw [hl, hlc, R.len], ?_, ?_, ?_, fun b hb => Nat.lt_of_lt_of_le (R.xlt b hb) hw.size, ?_⟩
  · intro i b h
    by_cases hi : D i
    · exact hlt i hi b h
    · exact Nat.lt_of_lt_of_le (R.lt i b ((hF0 i hi b).1 h)) hw.size
  · intro i j b h1 h2
    by_cases hi : D i
    · by_cases hj : D j
      · exact hdis i j b hi hj h1 h2
      · have h3 := (hF0 j hj b).1 h2
        rcases hF i hi b h1 with ⟨e, he, hb⟩ | hb
        · exact absurd (R.disj e j b hb h3 ▸ he) hj
        · have := R.lt j b h3; omega
    · have h3 := (hF0 i hi b).1 h1
      by_cases hj : D j
      · rcases hF j hj b h2 with ⟨e, he, hb⟩ | hb
        · exact absurd (R.disj e i b hb h3 ▸ he) hi
        · have := R.lt i b h3; omega
      · exact R.disj i j b h3 ((hF0 j hj b).1 h2)
  · intro i b h hx
    rcases own_old i b h with ⟨e, he, _⟩ | hh
    · exact R.apart e b he hx
    · have := R.xlt b hx; omega
  · intro i s c h1 h2
    by_cases hi : D i
    · exact hs i s c hi h1 h2
    · have hFi : F' i = F i := funext fun b => propext (hF0 i hi b)
      rw [hFi]
      rw [hsl i hi] at h1
      rw [hcv i hi] at h2
      cases hsi : sl[i]? with
      | none => simp [hsi] at h1
      | some s0 =>
        simp only [hsi, Option.map_some, Option.some.injEq] at h1
        have h0 := R.slot i s0 c hsi h2
        have hone : ∀ (p0 : Pl) (s0 : S), s0.place = some p0 → S.killBy kp s0 = (if kp p0 then s0 else .t .dead) →
            ((∀ b, ¬ F i b) ∧ ∃ p z cz, s0.place = some p ∧ slAt sl p = some z ∧ cvAt w cv p = some cz ∧ BRep P z cz s0 c) → S.killBy kp s0 = s →
            ((∀ x, s0 ≠ .t x) → (∀ f caps, s0 ≠ .bfn f caps) → SRep P w' (zs w' X F') (zx w' F') sl' cv' s c (F i)) := by
          intro p0 s0 hp hkill h0 h1 hn1 hn2
          obtain ⟨hFe, p1, z, cz, hp1, hz, hc, hb⟩ := h0
          rw [hp] at hp1; cases hp1
          rw [hkill] at h1
          by_cases hk : kp p0 = true
          · rw [if_pos hk] at h1; subst h1
            obtain ⟨z', h3, h4, h5⟩ := keep p0 z cz hk hz hc hb.node
            have hb' : BRep P z' cz s0 c := h4.elim (fun e => e ▸ hb) (fun e => hb.like e)
            cases s0 with
            | t x => exact absurd rfl (hn1 x)
            | bfn f caps => exact absurd rfl (hn2 f caps)
            | _ => exact ⟨hFe, p0, z', cz, hp, h3, h5, hb'⟩
          · rw [if_neg hk] at h1; subst h1
            exact .dead none c _ hFe
        cases s0 with
        | t x =>
          simp only [S.killBy] at h1; subst h1
          exact TRep.mono h0 zs_zx hzs hzx fun b hb => hb.elim (hother i hi b) (hstay b)
        | bfn f caps =>
          obtain ⟨hFe, vs, rfl, hlv, hv⟩ := h0
          simp only [S.killBy] at h1
          by_cases hk : caps.all kp = true
          · rw [if_pos hk] at h1; subst h1
            refine ⟨hFe, vs, rfl, hlv, fun n q v hq hvn => ?_⟩
            obtain ⟨z, cz, hz, hc, hb⟩ := hv n q v hq hvn
            have hkq : kp q = true := List.all_eq_true.1 hk q (List.mem_of_getElem? hq)
            obtain ⟨z', h3, h4, h5⟩ := keep q z cz hkq hz hc hb.node
            exact ⟨z', cz, h3, h5, h4.elim (fun e => e ▸ hb) (fun e => hb.like e)⟩
          · rw [if_neg hk] at h1; subst h1
            exact .dead none _ _ hFe
        | bsl q off len ex => exact hone q _ rfl rfl h0 h1 (by simp) (by simp)
        | bpt q a b => exact hone q _ rfl rfl h0 h1 (by simp) (by simp)
        | bar q j sz len => exact hone q _ rfl rfl h0 h1 (by simp) (by simp)
        | bfc t q => exact hone q _ rfl rfl h0 h1 (by simp) (by simp)
theorem Rel.noBorrow {w : World} {X : Nat → Prop} {sl : List S} {cv : List Value} {F : Nat → Nat → Prop} (R : Rel P w X sl cv F) {d : Nat} {o : S} (ho : sl[d]? = some o) (hf : o.flat = true) :
    ∀ (i : Nat) (s : S) (c : Value), sl[i]? = some s → cv[i]? = some c → S.killBy (Pl.keep ⟨d, []⟩ false) s = s := by
  have none : ∀ (q : Pl) (z : T) (cz : Value) (s : S) (c : Value), q.s = d → slAt sl q = some z → BRep P z cz s c → False := by
    intro q z cz s c hq hz hb
    simp only [slAt] at hz
    subst hq
    rw [ho] at hz
    have hn := hb.node
    cases o with
    | t x =>
      simp only at hz
      cases hp : q.path with
      | nil =>
        rw [hp] at hz
        simp only [T.at, Option.some.injEq] at hz
        subst hz
        cases x <;> first
          | (simp [S.flat] at hf; done)
          | (cases s <;> simp [BRep] at hb; done)
      | cons j r =>
        rw [hp] at hz
        cases x <;> first
          | (simp [S.flat] at hf; done)
          | (simp [T.at, T.kids] at hz; done)
    | _ => simp at hz
  have kept : ∀ (q : Pl), q.s ≠ d → Pl.keep ⟨d, []⟩ false q = true := fun q hq => by simp [Pl.keep, hq]
  intro i s c hi hc
  have h0 := R.slot i s c hi hc
  cases s with
  | t x => rfl
  | bfn f caps =>
    obtain ⟨hFe, vs, rfl, hlv, hv⟩ := h0
    simp only [S.killBy]
    rw [if_pos]
    rw [List.all_eq_true]
    intro q hq
    obtain ⟨n, hn⟩ := List.getElem?_of_mem hq
    have hlt : n < vs.length := by rw [hlv]; exact (List.getElem?_eq_some_iff.1 hn).1
    obtain ⟨z, cz, hz, hc, hb⟩ := hv n q _ hn (List.getElem?_eq_getElem hlt)
    by_cases hqd : q.s = d
    · exact (none q z cz _ _ hqd hz hb).elim
    · exact kept q hqd
  | bsl q off len e =>
    obtain ⟨hFe, p, z, cz, hp, hz, hc, hb⟩ := h0
    cases hp
    by_cases hqd : q.s = d
    · exact (none q z cz _ _ hqd hz hb).elim
    · simp [S.killBy, kept q hqd]
  | bpt q a b =>
    obtain ⟨hFe, p, z, cz, hp, hz, hc, hb⟩ := h0
    cases hp
    by_cases hqd : q.s = d
    · exact (none q z cz _ _ hqd hz hb).elim
    · simp [S.killBy, kept q hqd]
  | bar q j sz len =>
    obtain ⟨hFe, p, z, cz, hp, hz, hc, hb⟩ := h0
    cases hp
    by_cases hqd : q.s = d
    · exact (none q z cz _ _ hqd hz hb).elim
    · simp [S.killBy, kept q hqd]
  | bfc t q =>
    obtain ⟨hFe, p, z, cz, hp, hz, hc, hb⟩ := h0
    cases hp
    by_cases hqd : q.s = d
    · exact (none q z cz _ _ hqd hz hb).elim
    · simp [S.killBy, kept q hqd]
end
end Go.Proofs.Ytffofdfikmpanaa.A
namespace Go.Proofs.Ytffofdfikmpanaa.A
set_option linter.unusedVariables false
set_option linter.unusedSimpArgs false
section
variable {P : Program} {X : Nat → Prop}
structure To (w : World) (F : Nat → Nat → Prop) (w' : World) (F' : Nat → Nat → Prop) : Prop where
  own : ∀ i b, F' i b → (∃ j, F j b) ∨ w.heap.size ≤ b
  turns : Turns w w' (fun b => ∃ i, F i b)
theorem To.refl (w : World) (F : Nat → Nat → Prop) : To w F w F := ⟨fun i b h => .inl ⟨i, h⟩, Turns.refl _ _⟩
theorem To.trans {w w' w'' : World} {F F' F'' : Nat → Nat → Prop} (h : To w F w' F') (h' : To w' F' w'' F'') : To w F w'' F'' :=
  ⟨fun i b hb => (h'.own i b hb).elim (fun ⟨j, hj⟩ => h.own j b hj) (fun hs => .inr (Nat.le_trans h.turns.size hs)),
   h.turns.trans h'.turns fun b ⟨i, hi⟩ => h.own i b hi⟩
theorem To.zx {w w' : World} {F F' : Nat → Nat → Prop} (h : To w F w' F') : ∀ b, zx w F b → zx w' F' b := fun b hb =>
  ⟨Nat.lt_of_lt_of_le hb.1 h.turns.size, fun i hi => (h.own i b hi).elim (fun ⟨j, hj⟩ => hb.2 j hj) (fun hs => by have := hb.1; omega)⟩
theorem To.zs {w w' : World} {F F' : Nat → Nat → Prop} (h : To w F w' F') : ∀ b, zs w X F b → zs w' X F' b := fun b hb => ⟨h.zx b hb.1, hb.2⟩
theorem To.stay {w w' : World} {F F' : Nat → Nat → Prop} (h : To w F w' F') : ∀ b, A.zx w F b → w'.heap[b]? = w.heap[b]? := fun b hb => h.turns.block b hb.1 fun ⟨i, hi⟩ => hb.2 i hi
theorem To.prep {w w' : World} {F F' : Nat → Nat → Prop} (h : To w F w' F') {v : V} {c : Value} (hp : PRep w (A.zs w X F) (A.zx w F) v c) : PRep w' (A.zs w' X F') (A.zx w' F') v c :=
  hp.mono zs_zx h.zs h.zx h.stay
theorem To.preps {w w' : World} {F F' : Nat → Nat → Prop} (h : To w F w' F') {v : V} {c : Value} (hp : PRep w (A.zs w X F) (A.zs w X F) v c) : PRep w' (A.zs w' X F') (A.zs w' X F') v c :=
  hp.mono (fun _ h => h) h.zs h.zs fun b hb => h.stay b (zs_zx b hb)
def cutF (n : Nat) (F : Nat → Nat → Prop) : Nat → Nat → Prop := fun i b => i < n ∧ F i b
theorem cutF_to (w : World) (n : Nat) (F : Nat → Nat → Prop) : To w F w (cutF n F) := ⟨fun i b h => .inl ⟨i, h.2⟩, Turns.refl _ _⟩
theorem SRep.mono {w : World} {Zs Zx Zs' Zx' : Nat → Prop} {sl sl' : List S} {cv cv' : List Value} {s : S} {c : Value} {G : Nat → Prop} (h : SRep P w Zs Zx sl cv s c G)
    (hsx : ∀ b, Zs b → Zx b) (hs : ∀ b, Zs b → Zs' b) (hx : ∀ b, Zx b → Zx' b) (hsl : ∀ q z, slAt sl q = some z → slAt sl' q = some z) (hcv : ∀ q z, cvAt w cv q = some z → cvAt w cv' q = some z) : SRep P w Zs' Zx' sl' cv' s c G := by
  have one : ∀ s : S, ((∀ b, ¬ G b) ∧ ∃ p z cz, s.place = some p ∧ slAt sl p = some z ∧ cvAt w cv p = some cz ∧ BRep P z cz s c) → ((∀ b, ¬ G b) ∧ ∃ p z cz, s.place = some p ∧ slAt sl' p = some z ∧ cvAt w cv' p = some cz ∧ BRep P z cz s c) :=
    fun s ⟨h1, p, z, cz, h2, h3, h4, h5⟩ => ⟨h1, p, z, cz, h2, hsl p z h3, hcv p cz h4, h5⟩
  cases s with
  | t x => exact TRep.mono h hsx hs hx fun _ _ => rfl
  | bfn f caps =>
    obtain ⟨h1, vs, rfl, h2, h3⟩ := h
    exact ⟨h1, vs, rfl, h2, fun i p v hp hv => let ⟨z, cz, h4, h5, h6⟩ := h3 i p v hp hv; ⟨z, cz, hsl p z h4, hcv p cz h5, h6⟩⟩
  | bsl q off len e => exact one _ h
  | bpt q i j => exact one _ h
  | bar q j sz len => exact one _ h
  | bfc t q => exact one _ h
theorem slAt_app {sl : List S} {s : S} {q : Pl} {z : T} (h : slAt sl q = some z) (r : List S) : slAt (sl ++ r) q = some z := by
  simp only [slAt] at *
  cases hs : sl[q.s]? with
  | none => simp [hs] at h
  | some s0 => rw [List.getElem?_append_left (List.getElem?_eq_some_iff.1 hs).1, hs]; rw [hs] at h; exact h
theorem cvAt_app {w : World} {cv : List Value} {q : Pl} {z : Value} (h : cvAt w cv q = some z) (r : List Value) : cvAt w (cv ++ r) q = some z := by
  simp only [cvAt] at *
  cases hs : cv[q.s]? with
  | none => simp [hs] at h
  | some s0 => rw [List.getElem?_append_left (List.getElem?_eq_some_iff.1 hs).1, hs]; rw [hs] at h; exact h
theorem Rel.giveX {w w' : World} {sl : List S} {cv : List Value} {F : Nat → Nat → Prop} (R : Rel P w X sl cv F) (y : T) (c : Value) (Fd : Nat → Prop)
    (hw : Turns w w' (fun _ => False)) (hF : ∀ b, Fd b → w.heap.size ≤ b ∧ b < w'.heap.size)
    (hy : ∀ Zs Zx, (∀ b, zs w X F b → Zs b) → (∀ b, zx w F b → Zx b) → TRep P w' Zs Zx none y c Fd) :
    Rel P w' X (sl ++ [.t y]) (cv ++ [c]) (fun i b => (i < sl.length ∧ F i b) ∨ (i = sl.length ∧ Fd b)) ∧ To w F w' (fun i b => (i < sl.length ∧ F i b) ∨ (i = sl.length ∧ Fd b)) := by
  let F' : Nat → Nat → Prop := fun i b => (i < sl.length ∧ F i b) ∨ (i = sl.length ∧ Fd b)
  have hto : To w F w' F' := ⟨fun i b h => h.elim (fun h => .inl ⟨i, h.2⟩) (fun h => .inr (hF b h.2).1), hw.mono (fun _ h => h.elim)⟩
  refine ⟨(⟨by simp [R.len], ?_, ?_, ?_, fun b hb => Nat.lt_of_lt_of_le (R.xlt b hb) hw.size, ?_⟩ : Rel P w' X _ _ F'), hto⟩
  · rintro i b (⟨_, h⟩ | ⟨_, h⟩)
    · exact Nat.lt_of_lt_of_le (R.lt i b h) hw.size
    · exact (hF b h).2
  · rintro i j b (⟨h1, h2⟩ | ⟨h1, h2⟩) (⟨h3, h4⟩ | ⟨h3, h4⟩)
    · exact R.disj i j b h2 h4
    · have := R.lt i b h2; have := (hF b h4).1; omega
    · have := R.lt j b h4; have := (hF b h2).1; omega
    · omega
  · rintro i b (⟨_, h⟩ | ⟨_, h⟩) hx
    · exact R.apart i b h hx
    · have := R.xlt b hx; have := (hF b h).1; omega
  · intro i s c' h1 h2
    by_cases hi : i < sl.length
    · rw [List.getElem?_append_left hi] at h1
      rw [List.getElem?_append_left (by rw [← R.len]; exact hi)] at h2
      have h0 := R.slot i s c' h1 h2
      have hFi : F' i = F i := funext fun b => propext ⟨fun h => h.elim (·.2) (fun h => by have := h.1; omega), fun h => .inl ⟨hi, h⟩⟩
      rw [hFi]
      have hall : ∀ b, w'.heap[b]? = w.heap[b]? ∨ w.heap.size ≤ b := fun b => (Nat.lt_or_ge b w.heap.size).imp (fun hb => hw.block b hb id) id
      -- the world has only grown
      have hcell : ∀ (q : Pl) (z : T) (cz : Value), slAt sl q = some z → cvAt w cv q = some cz → (∀ v, z ≠ .p v) → cvAt w' cv q = some cz := fun q z cz hz hc hn =>
        R.far hz hc hn (fun b hb => hw.block b (R.lt _ b hb) id) (fun b hb => hw.block b hb.1 id)
      have one : ∀ s : S, ((∀ b, ¬ F i b) ∧ ∃ p z cz, s.place = some p ∧ slAt sl p = some z ∧ cvAt w cv p = some cz ∧ BRep P z cz s c') →
          ((∀ b, ¬ F i b) ∧ ∃ p z cz, s.place = some p ∧ slAt (sl ++ [.t y]) p = some z ∧ cvAt w' (cv ++ [c]) p = some cz ∧ BRep P z cz s c') :=
        fun s ⟨h1, p, z, cz, h2, h3, h4, h5⟩ => ⟨h1, p, z, cz, h2, slAt_app (s := .t y) h3 _, cvAt_app (hcell p z cz h3 h4 h5.node) _, h5⟩
      cases s with
      | t x => exact TRep.mono h0 zs_zx hto.zs hto.zx fun b hb => hb.elim (fun hb => hw.block b (R.lt _ b hb) id) (fun hb => hw.block b hb.1 id)
      | bfn f caps =>
        obtain ⟨h1, vs, rfl, h2, h3⟩ := h0
        exact ⟨h1, vs, rfl, h2, fun i p v hp hv => let ⟨z, cz, h4, h5, h6⟩ := h3 i p v hp hv; ⟨z, cz, slAt_app (s := .t y) h4 _, cvAt_app (hcell p z cz h4 h5 h6.node) _, h6⟩⟩
      | bsl q off len e => exact one _ h0
      | bpt q i j => exact one _ h0
      | bar q j sz len => exact one _ h0
      | bfc t q => exact one _ h0
    · have hlt : i < (sl ++ [S.t y]).length := (List.getElem?_eq_some_iff.1 h1).1
      simp at hlt
      have hi' : i = sl.length := by omega
      subst hi'
      simp at h1
      rw [List.getElem?_append_right (by rw [R.len]; exact Nat.le_refl _)] at h2
      simp [R.len] at h2
      subst h1; subst h2
      have hFi : F' sl.length = Fd := funext fun b => propext ⟨fun h => h.elim (fun h => by have := h.1; omega) (·.2), fun h => .inr ⟨rfl, h⟩⟩
      rw [hFi]
      exact hy _ _ hto.zs hto.zx
theorem Rel.give {w w' : World} {sl : List S} {cv : List Value} {F : Nat → Nat → Prop} (R : Rel P w X sl cv F) (y : T) (c : Value) (Fd : Nat → Prop)
    (hw : Turns w w' (fun _ => False)) (hF : ∀ b, Fd b → w.heap.size ≤ b ∧ b < w'.heap.size)
    (hy : ∀ Zs Zx, (∀ b, zs w X F b → Zs b) → (∀ b, zx w F b → Zx b) → TRep P w' Zs Zx none y c Fd) :
    ∃ F', Rel P w' X (sl ++ [.t y]) (cv ++ [c]) F' ∧ To w F w' F' := ⟨_, R.giveX y c Fd hw hF hy⟩
theorem Rel.dropY {w : World} {sl : List S} {cv : List Value} {y : S} {c : Value} {F : Nat → Nat → Prop} (R : Rel P w X (sl ++ [y]) (cv ++ [c]) F) (Y : Nat → Prop) (hY : ∀ b, Y b → X b ∨ F sl.length b)
    (hb : ∀ (i : Nat) (s : S), sl[i]? = some s → s.okB sl.length = true) : ∃ F', Rel P w Y sl cv F' ∧ To w F w F' := by
  have hlen : sl.length = cv.length := by have := R.len; simp at this; exact this
  have hto := cutF_to w sl.length F
  have hzs : ∀ b, zs w X F b → zs w Y (cutF sl.length F) b := fun b hb => ⟨hto.zx b hb.1, fun hy => (hY b hy).elim hb.2 fun hh => hb.1.2 _ hh⟩
  refine ⟨cutF sl.length F, ⟨hlen, fun i b h => R.lt i b h.2, fun i j b h1 h2 => R.disj i j b h1.2 h2.2, fun i b h hy => (hY b hy).elim (R.apart i b h.2) fun hh => by
    have := R.disj i sl.length b h.2 hh
    have := h.1
    omega, fun b hy => (hY b hy).elim (R.xlt b) (R.lt _ b), fun i s c' h1 h2 => ?_⟩, hto⟩
  have hi : i < sl.length := (List.getElem?_eq_some_iff.1 h1).1
  have h0 := R.slot i s c' (by rw [List.getElem?_append_left hi]; exact h1) (by rw [List.getElem?_append_left (by omega)]; exact h2)
  have hFi : cutF sl.length F i = F i := funext fun b => propext ⟨(·.2), fun h => ⟨hi, h⟩⟩
  rw [hFi]
  have hok := hb i s h1
  have hq : ∀ (q : Pl) (z : T) (cz : Value), q.s ≠ sl.length → slAt (sl ++ [y]) q = some z → cvAt w (cv ++ [c]) q = some cz → slAt sl q = some z ∧ cvAt w cv q = some cz := by
    intro q z cz hne hz hc
    simp only [slAt, cvAt] at *
    have : q.s < sl.length := by
      rcases Nat.lt_trichotomy q.s sl.length with h | h | h
      · exact h
      · exact absurd h hne
      · rw [List.getElem?_eq_none (by simp; omega)] at hz; cases hz
    rw [List.getElem?_append_left this] at hz
    rw [List.getElem?_append_left (by omega)] at hc
    exact ⟨hz, hc⟩
  have one : ∀ s : S, (∀ p, s.place = some p → p.s ≠ sl.length) → ((∀ b, ¬ F i b) ∧ ∃ p z cz, s.place = some p ∧ slAt (sl ++ [y]) p = some z ∧ cvAt w (cv ++ [c]) p = some cz ∧ BRep P z cz s c') →
      ((∀ b, ¬ F i b) ∧ ∃ p z cz, s.place = some p ∧ slAt sl p = some z ∧ cvAt w cv p = some cz ∧ BRep P z cz s c') :=
    fun s hp ⟨h1, p, z, cz, h2, h3, h4, h5⟩ => ⟨h1, p, z, cz, h2, (hq p z cz (hp p h2) h3 h4).1, (hq p z cz (hp p h2) h3 h4).2, h5⟩
  cases s with
  | t x => exact TRep.mono h0 zs_zx hzs hto.zx fun _ _ => rfl
  | bfn f caps =>
    obtain ⟨h1, vs, rfl, h2, h3⟩ := h0
    refine ⟨h1, vs, rfl, h2, fun n p v hp hv => ?_⟩
    obtain ⟨z, cz, h4, h5, h6⟩ := h3 n p v hp hv
    simp only [S.okB, List.all_eq_true] at hok
    have := hok p (List.mem_of_getElem? hp)
    obtain ⟨h7, h8⟩ := hq p z cz (by simpa using this) h4 h5
    exact ⟨z, cz, h7, h8, h6⟩
  | bsl q off len e => exact one _ (fun p hp => by cases hp; simpa [S.okB] using hok) h0
  | bpt q i j => exact one _ (fun p hp => by cases hp; simpa [S.okB] using hok) h0
  | bar q j sz len => exact one _ (fun p hp => by cases hp; simpa [S.okB] using hok) h0
  | bfc t q => exact one _ (fun p hp => by cases hp; simpa [S.okB] using hok) h0
theorem Rel.drop {w : World} {sl : List S} {cv : List Value} {y : S} {c : Value} {F : Nat → Nat → Prop} (R : Rel P w X (sl ++ [y]) (cv ++ [c]) F)
    (hb : ∀ (i : Nat) (s : S), sl[i]? = some s → s.okB sl.length = true) : ∃ F', Rel P w X sl cv F' ∧ To w F w F' := R.dropY X (fun _ => .inl) hb
theorem Rel.okB {w : World} {sl : List S} {cv : List Value} {F : Nat → Nat → Prop} (R : Rel P w X sl cv F) : ∀ (i : Nat) (s : S), sl[i]? = some s → s.okB sl.length = true := by
  intro i s hi
  have hlt : i < cv.length := by rw [← R.len]; exact (List.getElem?_eq_some_iff.1 hi).1
  have h0 := R.slot i s _ hi (List.getElem?_eq_getElem hlt)
  have hq : ∀ (q : Pl) (z : T), slAt sl q = some z → q.s ≠ sl.length := by
    intro q z hz he
    simp only [slAt] at hz
    rw [he, List.getElem?_eq_none (Nat.le_refl _)] at hz
    cases hz
  cases s with
  | t x => rfl
  | bfn f caps =>
    obtain ⟨h1, vs, _, h2, h3⟩ := h0
    simp only [S.okB, List.all_eq_true]
    intro p hp
    obtain ⟨n, hn⟩ := List.getElem?_of_mem hp
    have hlt : n < vs.length := by rw [h2]; exact (List.getElem?_eq_some_iff.1 hn).1
    obtain ⟨z, cz, h4, _⟩ := h3 n p _ hn (List.getElem?_eq_getElem hlt)
    simpa using hq p z h4
  | bsl q off len e => obtain ⟨_, p, z, cz, hp, hz, _⟩ := h0; cases hp; simpa [S.okB] using hq _ z hz
  | bpt q a b => obtain ⟨_, p, z, cz, hp, hz, _⟩ := h0; cases hp; simpa [S.okB] using hq _ z hz
  | bar q j sz len => obtain ⟨_, p, z, cz, hp, hz, _⟩ := h0; cases hp; simpa [S.okB] using hq _ z hz
  | bfc t q => obtain ⟨_, p, z, cz, hp, hz, _⟩ := h0; cases hp; simpa [S.okB] using hq _ z hz
theorem okB_kill {s : S} {kp : Pl → Bool} {n : Nat} (h : s.okB n = true) : (s.killBy kp).okB n = true := by
  cases s <;> simp only [S.killBy] <;> first
    | rfl
    | (split <;> first | exact h | rfl)
theorem killBy_ne {s : S} {n : Nat} (h : s.okB n = true) (kp : Pl → Bool) : s.killBy (fun q => kp q && q.s != n) = s.killBy kp := by
  cases s with
  | t x => rfl
  | bfn f caps =>
    simp only [S.okB, List.all_eq_true] at h
    simp only [S.killBy]
    have : (caps.all fun q => kp q && q.s != n) = caps.all kp := by
      rw [Bool.eq_iff_iff, List.all_eq_true, List.all_eq_true]
      exact ⟨fun hh x hx => by have := hh x hx; simp at this; exact this.1, fun hh x hx => by simp [hh x hx]; simpa using h x hx⟩
    rw [this]
  | _ => simp only [S.okB] at h; simp only [S.killBy, h, Bool.and_true]
theorem keep_self (d : Nat) (q : Pl) (hq : q.s = d) : Pl.keep ⟨d, []⟩ false q = false := by
  simp only [Pl.keep, hq, bne_self_eq_false, Bool.false_or, Bool.and_eq_false_iff]
  cases q.path <;> simp
theorem setD_get {w : World} {sl sl' : List S} {cv : List Value} {F : Nat → Nat → Prop} (R : Rel P w X sl cv F) {d : Nat} {s : S} (h : setD sl d s = some sl') :
    d < sl.length ∧ s.okB d = true ∧ sl'.length = sl.length ∧ sl'[d]? = some s ∧ ∀ i, i ≠ d → sl'[i]? = (sl[i]?).map (S.killBy (Pl.keep ⟨d, []⟩ false)) := by
  unfold setD at h
  cases ho : sl[d]? with
  | none => simp [ho] at h
  | some o =>
    have hd : d < sl.length := (List.getElem?_eq_some_iff.1 ho).1
    simp only [ho] at h
    split at h
    · rename_i hok
      cases h
      by_cases hf : o.flat = true
      · rw [if_pos hf]
        refine ⟨hd, hok, by simp, List.getElem?_set_self hd, fun i hi => ?_⟩
        rw [List.getElem?_set_ne (Ne.symm hi)]
        cases hs : sl[i]? with
        | none => rfl
        | some s0 =>
          have hlt : i < cv.length := by rw [← R.len]; exact (List.getElem?_eq_some_iff.1 hs).1
          simp [R.noBorrow ho hf i s0 _ hs (List.getElem?_eq_getElem hlt)]
      · rw [if_neg hf]
        refine ⟨hd, hok, by simp [killP], List.getElem?_set_self (by simpa [killP] using hd), fun i hi => ?_⟩
        rw [List.getElem?_set_ne (Ne.symm hi)]
        simp only [killP, List.getElem?_map]
        congr 1
    · cases h
theorem Rel.lay {w : World} {sl sl' : List S} {cv : List Value} {y : T} {c : Value} {F : Nat → Nat → Prop} (R : Rel P w X (sl ++ [.t y]) (cv ++ [c]) F) {d : Nat}
    (hR : ∃ F0, Rel P w X sl cv F0) (h : setD sl d (.t y) = some sl') : ∃ F', Rel P w X sl' (cv.set d c) F' ∧ To w F w F' := by
  obtain ⟨F0, R0⟩ := hR
  obtain ⟨hd, hok, hl, hget, hother⟩ := setD_get R0 h
  have hlen : sl.length = cv.length := R0.len
  let F' : Nat → Nat → Prop := fun i b => if i = d then F sl.length b else if i = sl.length then False else F i b
  have hF'd : F' d = F sl.length := by funext b; simp [F']
  have hF'n : ∀ b, ¬ F' sl.length b := by intro b; simp [F']; omega
  have hF'o : ∀ i, i ≠ d → i ≠ sl.length → F' i = F i := by intro i h1 h2; funext b; simp [F', h1, h2]
  have hto : To w F w F' := ⟨fun i b hb => by
    by_cases h1 : i = d
    · subst h1; rw [hF'd] at hb; exact .inl ⟨_, hb⟩
    · by_cases h2 : i = sl.length
      · subst h2; exact absurd hb (hF'n b)
      · rw [hF'o i h1 h2] at hb; exact .inl ⟨_, hb⟩, Turns.refl _ _⟩
  have hn : d ≠ sl.length := by omega
  have hhand : TRep P w (zs w X F) (zx w F) none y c (F sl.length) := R.slot sl.length (.t y) c (by simp) (by rw [List.getElem?_append_right (by omega)]; simp [hlen])
  have R' : Rel P w X (sl' ++ [.t .dead]) (cv.set d c ++ [c]) F' := by
    refine R.upd (fun i => i = d ∨ i = sl.length) (fun q => Pl.keep ⟨d, []⟩ false q && q.s != sl.length) (by simp [hl]) (by simp) ?_ ?_ ?_ (Turns.refl _ _) ?_ ?_ ?_ ?_ ?_
    · intro i hi
      have h1 : i ≠ d := fun h => hi (.inl h)
      have h2 : i ≠ sl.length := fun h => hi (.inr h)
      by_cases hlt : i < sl.length
      · rw [List.getElem?_append_left (by omega), List.getElem?_append_left hlt]
        rw [hother i h1]
        cases hs : sl[i]? with
        | none => rfl
        | some s0 => simp only [Option.map_some]; rw [killBy_ne (R0.okB i s0 hs)]
      · rw [List.getElem?_eq_none (by simp; omega), List.getElem?_eq_none (by simp; omega)]; rfl
    · intro i hi
      have h1 : i ≠ d := fun h => hi (.inl h)
      have h2 : i ≠ sl.length := fun h => hi (.inr h)
      by_cases hlt : i < sl.length
      · rw [List.getElem?_append_left (by simp; omega), List.getElem?_append_left (by omega), List.getElem?_set_ne (Ne.symm h1)]
      · rw [List.getElem?_eq_none (by simp; omega), List.getElem?_eq_none (by simp; omega)]
    · intro i hi b
      rw [hF'o i (fun h => hi (.inl h)) (fun h => hi (.inr h))]
    · rintro e (rfl | rfl) b hb
      · rw [hF'd] at hb; exact .inl ⟨_, .inr rfl, hb⟩
      · exact absurd hb (hF'n b)
    · rintro e (rfl | rfl) b hb
      · rw [hF'd] at hb; exact R.lt _ b hb
      · exact absurd hb (hF'n b)
    · rintro e e' b (rfl | rfl) (rfl | rfl) h1 h2
      · rfl
      · exact absurd h2 (hF'n b)
      · exact absurd h1 (hF'n b)
      · rfl
    · rintro q z cz (hq | hq) hk hz hc hnp
      · simp only [keep_self d q hq, Bool.false_and] at hk; cases hk
      · simp [hq] at hk
    · rintro e s c' (rfl | rfl) h1 h2
      · rw [List.getElem?_append_left (by omega), hget] at h1
        cases h1
        rw [List.getElem?_append_left (by simp; omega), List.getElem?_set_self (by omega)] at h2
        cases h2
        rw [hF'd]
        exact TRep.mono hhand zs_zx hto.zs hto.zx fun _ _ => rfl
      · rw [List.getElem?_append_right (by omega)] at h1
        simp [hl] at h1
        subst h1
        exact .dead none _ _ hF'n
  obtain ⟨F'', R'', ht⟩ := Rel.drop R' (fun i s hi => by
    by_cases hid : i = d
    · subst hid; rw [hget] at hi; cases hi; rfl
    · rw [hother i hid] at hi
      cases hs : sl[i]? with
      | none => simp [hs] at hi
      | some s0 =>
        simp [hs] at hi; subst hi
        rw [hl]; exact okB_kill (R0.okB i s0 hs))
  exact ⟨F'', R'', hto.trans ht⟩
end
end Go.Proofs.Ytffofdfikmpanaa.A
namespace Go.Proofs.Ytffofdfikmpanaa.A
set_option linter.unusedVariables false
set_option linter.unusedSimpArgs false
section
variable {P : Program} {X : Nat → Prop}
structure HRel (P : Program) (w : World) (X : Nat → Prop) (sl : List S) (cv : List Value) (h : T) (ch : Value) (F : Nat → Nat → Prop) : Prop where
  rel : Rel P w X (sl ++ [.t h]) (cv ++ [ch]) F
  ok : ∀ (i : Nat) (s : S), sl[i]? = some s → s.okB sl.length = true
theorem HRel.len {w : World} {sl : List S} {cv : List Value} {h : T} {ch : Value} {F : Nat → Nat → Prop} (R : HRel P w X sl cv h ch F) : sl.length = cv.length := by
  have := R.rel.len; simp at this; exact this
theorem HRel.base {w : World} {sl : List S} {cv : List Value} {h : T} {ch : Value} {F : Nat → Nat → Prop} (R : HRel P w X sl cv h ch F) : ∃ F', Rel P w X sl cv F' ∧ To w F w F' := R.rel.drop R.ok
theorem HRel.hand {w : World} {sl : List S} {cv : List Value} {h : T} {ch : Value} {F : Nat → Nat → Prop} (R : HRel P w X sl cv h ch F) : TRep P w (zs w X F) (zx w F) none h ch (F sl.length) :=
  R.rel.slot sl.length (.t h) ch (by simp) (by rw [List.getElem?_append_right (by have := R.len; omega)]; simp [R.len])
theorem Rel.give' {w w' : World} {sl : List S} {cv : List Value} {F : Nat → Nat → Prop} (R : Rel P w X sl cv F) (y : T) (c : Value) (Fd : Nat → Prop)
    (hw : Turns w w' (fun _ => False)) (hF : ∀ b, Fd b → w.heap.size ≤ b ∧ b < w'.heap.size)
    (hy : ∀ Zs Zx, (∀ b, zs w X F b → Zs b) → (∀ b, zx w F b → Zx b) → TRep P w' Zs Zx none y c Fd) :
    ∃ F', HRel P w' X sl cv y c F' ∧ To w F w' F' := by
  obtain ⟨F', h1, h2⟩ := R.give y c Fd hw hF hy
  exact ⟨F', ⟨h1, R.okB⟩, h2⟩
theorem Rel.giveDead {w : World} {sl : List S} {cv : List Value} {F : Nat → Nat → Prop} (R : Rel P w X sl cv F) : ∃ F', HRel P w X sl cv .dead undef F' ∧ To w F w F' :=
  R.give' .dead undef (fun _ => False) (Turns.refl _ _) (fun _ h => h.elim) fun _ _ _ _ => .dead none _ _ fun _ => id
theorem HRel.lay {w : World} {sl sl' : List S} {cv : List Value} {y : T} {c : Value} {F : Nat → Nat → Prop} (R : HRel P w X sl cv y c F) {d : Nat} (h : setD sl d (.t y) = some sl') :
    ∃ F', Rel P w X sl' (cv.set d c) F' ∧ To w F w F' := by
  obtain ⟨F0, R0, _⟩ := R.base
  exact R.rel.lay ⟨F0, R0⟩ h
theorem put_at_prefix (y' : T) : ∀ (q r : List Nat) (x z : T), x.at q = some z → (T.put y' (q ++ r) x).at q = some (T.put y' r z)
  | [], r, x, z, h => by simp only [T.at, Option.some.injEq] at h; subst h; simp [T.at]
  | j :: q, r, x, z, h => by
    simp only [T.at] at h
    cases x with
    | opt ty cs =>
      simp only [T.kids] at h
      cases ht : cs[j]? with
      | none => simp [ht] at h
      | some t =>
        simp only [ht] at h
        have hlt : j < cs.length := (List.getElem?_eq_some_iff.1 ht).1
        simp only [List.cons_append, T.put, ht, T.at, T.kids, List.getElem?_set_self hlt]
        exact put_at_prefix y' q r t z h
    | ifc u x =>
      cases j with
      | zero => simp only [List.cons_append, T.put, T.at, T.kids, List.getElem?_cons_zero] at h ⊢; exact put_at_prefix y' q r x z h
      | succ j => simp [T.kids] at h
    | _ => simp [T.kids] at h
theorem put_like {y' z y : T} {j : Nat} {r : List Nat} (h : z.at (j :: r) = some y) : z.like (T.put y' (j :: r) z) := by
  simp only [T.at] at h
  cases z with
  | opt ty cs => simp only [T.put]; split <;> simp [T.like]
  | ifc u x =>
    cases j with
    | zero => simp [T.put, T.like]
    | succ j => simp [T.kids] at h
  | _ => simp [T.kids] at h
theorem at_rest : ∀ {q r : List Nat} {x z y : T}, x.at q = some z → x.at (q ++ r) = some y → z.at r = some y
  | [], r, x, z, y, h, h' => by simp only [T.at, Option.some.injEq] at h; subst h; exact h'
  | j :: q, r, x, z, y, h, h' => by
    simp only [List.cons_append, T.at] at h h'
    cases hk : x.kids with
    | none => simp [hk] at h
    | some cs =>
      simp only [hk] at h h'
      cases hj : cs[j]? with
      | none => simp [hj] at h
      | some t => simp only [hj] at h h'; exact at_rest h h'
theorem keep_prefix {p q : Pl} {k : Bool} (hq : q.s = p.s) (h : p.keep k q = true) : ∃ r, p.path = q.path ++ r ∧ (r = [] → k = true) := by
  simp only [Pl.keep, hq, bne_self_eq_false, Bool.false_or, Bool.and_eq_true] at h
  obtain ⟨h1, h2⟩ := h
  obtain ⟨r, hr⟩ := List.isPrefixOf_iff_prefix.1 h1
  refine ⟨r, hr.symm, fun h0 => ?_⟩
  subst h0
  simp at hr
  simpa [hr] using h2
theorem putN_get {sl sl' : List S} {p : Pl} {y' : T} {k : Bool} (h : putN sl p y' k = some sl') :
    ∃ x, sl[p.s]? = some (.t x) ∧ p.s < sl.length ∧ sl'.length = sl.length ∧ sl'[p.s]? = some (.t (T.put y' p.path x)) ∧ ∀ i, i ≠ p.s → sl'[i]? = (sl[i]?).map (S.killBy (p.keep k)) := by
  unfold putN at h
  split at h
  · rename_i x hx
    cases h
    have hd : p.s < sl.length := (List.getElem?_eq_some_iff.1 hx).1
    refine ⟨x, hx, hd, by simp [killP], List.getElem?_set_self (by simpa [killP] using hd), fun i hi => ?_⟩
    rw [List.getElem?_set_ne (Ne.symm hi)]
    simp only [killP, List.getElem?_map]
    congr 1
  · cases h
theorem HRel.node2 {w : World} {sl : List S} {cv : List Value} {h : T} {ch : Value} {F : Nat → Nat → Prop} (R : HRel P w X sl cv h ch F) {p : Pl} {y0 : T} (hz : slAt sl p = some y0) :
    ∃ me c G, cvAt w cv p = some c ∧ TRep P w (zs w X F) (zx w F) me y0 c G ∧ (∀ b, G b → F p.s b) ∧ (∀ b, G b → ¬ F sl.length b) ∧
      ∀ (w' : World) (y' h' : T) (ch' : Value) (G1 G2 : Nat → Prop) (k : Bool) (sl' : List S), putN sl p y' k = some sl' →
        Turns w w' (fun b => G b ∨ F sl.length b) → (∀ b, G1 b → (G b ∨ F sl.length b) ∨ w.heap.size ≤ b) → (∀ b, G2 b → (G b ∨ F sl.length b) ∨ w.heap.size ≤ b) →
        (∀ b, G1 b ∨ G2 b → b < w'.heap.size) → (∀ b, G1 b → ¬ G2 b) →
        (∀ Zs Zx, (∀ b, zs w X F b → Zs b) → (∀ b, zx w F b → Zx b) → (∀ b, G b ∨ F sl.length b → ¬ G1 b → ¬ G2 b → Zs b ∧ Zx b) → TRep P w' Zs Zx me y' c G1 ∧ TRep P w' Zs Zx none h' ch' G2) →
        (∀ v, y' = .p v → v.one = true) → (k = true → y0.like y') → ∃ F', HRel P w' X sl' cv h' ch' F' ∧ To w F w' F' := by
  have hlen := R.len
  have hps : p.s < sl.length := by
    simp only [slAt] at hz
    cases hs : sl[p.s]? with
    | none => simp [hs] at hz
    | some s => exact (List.getElem?_eq_some_iff.1 hs).1
  have hzx : ∃ x, sl[p.s]? = some (.t x) ∧ x.at p.path = some y0 := by
    simp only [slAt] at hz
    cases hs : sl[p.s]? with
    | none => simp [hs] at hz
    | some s =>
      cases s with
      | t x => exact ⟨x, rfl, by simpa [hs] using hz⟩
      | _ => simp [hs] at hz
  obtain ⟨x, hx, hxy⟩ := hzx
  obtain ⟨c0, hc0⟩ : ∃ c0, cv[p.s]? = some c0 := ⟨cv[p.s], List.getElem?_eq_getElem (by omega)⟩
  have hT : TRep P w (zs w X F) (zx w F) none x c0 (F p.s) := R.rel.slot p.s (.t x) c0 (by rw [List.getElem?_append_left hps]; exact hx) (by rw [List.getElem?_append_left (by omega)]; exact hc0)
  obtain ⟨me, c, G, hc, hy0, hsub, hput⟩ := hT.way p.path hxy
  have hGn : ∀ b, G b → ¬ F sl.length b := fun b hb hn => by have := R.rel.disj _ _ b (hsub b hb) hn; omega
  refine ⟨me, c, G, by simp [cvAt, hc0, hc], hy0, hsub, hGn, fun w' y' h' ch' G1 G2 k sl' hpn hw hG1 hG2 hlt hdis hrep hone hlike => ?_⟩
  obtain ⟨x', hx', _, hl', hget, hother⟩ := putN_get hpn
  rw [hx] at hx'; cases hx'
  have hn : p.s ≠ sl.length := by omega
  let F' : Nat → Nat → Prop := fun i b => if i = p.s then (F p.s b ∧ ¬ G b) ∨ G1 b else if i = sl.length then G2 b else F i b
  have hFp : ∀ b, F' p.s b ↔ (F p.s b ∧ ¬ G b) ∨ G1 b := fun b => by simp [F']
  have hFn : ∀ b, F' sl.length b ↔ G2 b := fun b => by simp [F', Ne.symm hn]
  have hFo : ∀ i, i ≠ p.s → i ≠ sl.length → ∀ b, F' i b ↔ F i b := fun i h1 h2 b => by simp [F', h1, h2]
  have hGF : ∀ b, G b ∨ F sl.length b → ∃ j, F j b := fun b hb => hb.elim (fun hb => ⟨_, hsub b hb⟩) (fun hb => ⟨_, hb⟩)
  have hto : To w F w' F' := ⟨fun i b hb => by
    by_cases h1 : i = p.s
    · subst h1; rcases (hFp b).1 hb with hb | hb
      · exact .inl ⟨_, hb.1⟩
      · exact (hG1 b hb).imp (hGF b) id
    · by_cases h2 : i = sl.length
      · subst h2; exact (hG2 b ((hFn b).1 hb)).imp (hGF b) id
      · exact .inl ⟨_, (hFo i h1 h2 b).1 hb⟩, hw.mono fun b hb => hGF b hb⟩
  have hzs' : ∀ b, zs w X F b → zs w' X F' b := hto.zs
  have hzx' : ∀ b, zx w F b → zx w' F' b := hto.zx
  have hfree : ∀ b, G b ∨ F sl.length b → ¬ G1 b → ¬ G2 b → zs w' X F' b ∧ zx w' F' b := by
    intro b hb h1 h2
    have hlt0 : b < w.heap.size := hb.elim (fun hb => R.rel.lt _ b (hsub b hb)) (R.rel.lt _ b)
    have hno : ∀ i, ¬ F' i b := by
      intro i hi
      by_cases e1 : i = p.s
      · subst e1
        rcases (hFp b).1 hi with hi | hi
        · rcases hb with hb | hb
          · exact hi.2 hb
          · exact hn (R.rel.disj _ _ b hi.1 hb)
        · exact h1 hi
      · by_cases e2 : i = sl.length
        · subst e2; exact h2 ((hFn b).1 hi)
        · have hi' := (hFo i e1 e2 b).1 hi
          rcases hb with hb | hb
          · exact e1 (R.rel.disj _ _ b hi' (hsub b hb))
          · exact e2 (R.rel.disj _ _ b hi' hb)
    have hnx : ¬ X b := hb.elim (fun hb => R.rel.apart _ b (hsub b hb)) (R.rel.apart _ b)
    exact ⟨⟨⟨Nat.lt_of_lt_of_le hlt0 hw.size, hno⟩, hnx⟩, Nat.lt_of_lt_of_le hlt0 hw.size, hno⟩
  obtain ⟨hty, hth⟩ := hrep _ _ hzs' hzx' hfree
  -- the tree in the slot, with the new node
  have hsame : ∀ b, (F p.s b ∧ ¬ G b) ∨ zx w F b → w'.heap[b]? = w.heap[b]? := by
    rintro b (⟨h1, h2⟩ | hb)
    · exact hw.block b (R.rel.lt _ b h1) fun hh => hh.elim h2 fun hh => hn (R.rel.disj _ _ b h1 hh)
    · exact hw.block b hb.1 fun hh => hb.2 _ (hGF b hh).choose_spec
  have hG1' : ∀ b, G1 b → G b ∨ ¬ F p.s b := fun b hb => (hG1 b hb).elim (fun hh => hh.elim .inl fun hh => .inr fun hf => hn (R.rel.disj _ _ b hf hh)) fun hh => .inr fun hf => by have := R.rel.lt _ b hf; omega
  have hcat := hput w' (zs w' X F') (zx w' F') y' G1 zs_zx hzs' hzx' hsame hty hG1' hone
  have hFn' : F' sl.length = G2 := funext fun b => propext (hFn b)
  have hFp' : F' p.s = (fun b => (F p.s b ∧ ¬ G b) ∨ G1 b) := funext fun b => propext (hFp b)
  refine ⟨F', ⟨?_, ?_⟩, hto⟩
  · refine R.rel.upd (fun i => i = p.s ∨ i = sl.length) (fun q => p.keep k q && q.s != sl.length) (by simp [hl']) (by simp) ?_ ?_ ?_ (hw.mono ?_) ?_ ?_ ?_ ?_ ?_
    · intro i hi
      have h1 : i ≠ p.s := fun h => hi (.inl h)
      have h2 : i ≠ sl.length := fun h => hi (.inr h)
      by_cases hil : i < sl.length
      · rw [List.getElem?_append_left (by omega), List.getElem?_append_left hil, hother i h1]
        cases hs : sl[i]? with
        | none => rfl
        | some s0 => simp only [Option.map_some]; rw [killBy_ne (R.ok i s0 hs)]
      · rw [List.getElem?_eq_none (by simp; omega), List.getElem?_eq_none (by simp; omega)]; rfl
    · intro i hi
      have h2 : i ≠ sl.length := fun h => hi (.inr h)
      by_cases hil : i < sl.length
      · rw [List.getElem?_append_left (by omega), List.getElem?_append_left (by omega)]
      · rw [List.getElem?_eq_none (by simp; omega), List.getElem?_eq_none (by simp; omega)]
    · intro i hi b
      exact hFo i (fun h => hi (.inl h)) (fun h => hi (.inr h)) b
    · rintro b (hb | hb)
      · exact ⟨_, .inl rfl, hsub b hb⟩
      · exact ⟨_, .inr rfl, hb⟩
    · rintro d (rfl | rfl) b hb
      · rcases (hFp b).1 hb with hb | hb
        · exact .inl ⟨_, .inl rfl, hb.1⟩
        · exact (hG1 b hb).imp (fun hh => hh.elim (fun hh => ⟨_, .inl rfl, hsub b hh⟩) (fun hh => ⟨_, .inr rfl, hh⟩)) id
      · exact (hG2 b ((hFn b).1 hb)).imp (fun hh => hh.elim (fun hh => ⟨_, .inl rfl, hsub b hh⟩) (fun hh => ⟨_, .inr rfl, hh⟩)) id
    · rintro d (rfl | rfl) b hb
      · rcases (hFp b).1 hb with hb | hb
        · exact Nat.lt_of_lt_of_le (R.rel.lt _ b hb.1) hw.size
        · exact hlt b (.inl hb)
      · exact hlt b (.inr ((hFn b).1 hb))
    · have cross : ∀ b, F' p.s b → F' sl.length b → False := by
        intro b h1 h2
        have h2' := (hFn b).1 h2
        rcases (hFp b).1 h1 with h1 | h1
        · rcases hG2 b h2' with (hh | hh) | hh
          · exact h1.2 hh
          · exact hn (R.rel.disj _ _ b h1.1 hh)
          · have := R.rel.lt _ b h1.1; omega
        · exact hdis b h1 h2'
      rintro d e b (rfl | rfl) (rfl | rfl) h1 h2
      · rfl
      · exact (cross b h1 h2).elim
      · exact (cross b h2 h1).elim
      · rfl
    · rintro q z cz (hq | hq) hk hz hcz hnp
      · simp only [Bool.and_eq_true] at hk
        obtain ⟨r, hr, hrk⟩ := keep_prefix hq hk.1
        have hzq : x.at q.path = some z := by
          simp only [slAt] at hz
          rw [hq, List.getElem?_append_left hps, hx] at hz
          exact hz
        have hczq : cAt w c0 q.path = some cz := by
          simp only [cvAt] at hcz
          rw [hq, List.getElem?_append_left (by omega), hc0] at hcz
          exact hcz
        refine ⟨T.put y' r z, ?_, ?_, ?_⟩
        · simp only [slAt]
          rw [hq, List.getElem?_append_left (by omega), hget]
          show (T.put y' p.path x).at q.path = _
          rw [hr]
          exact put_at_prefix y' q.path r x z hzq
        · cases r with
          | nil =>
            have : z = y0 := by
              simp only [List.append_nil] at hr
              rw [hr, hzq] at hxy
              exact Option.some.inj hxy
            subst this
            exact hlike (hrk rfl)
          | cons j r =>
            have hzy : z.at (j :: r) = some y0 := at_rest hzq (by rw [← hr]; exact hxy)
            exact put_like hzy
        · simp only [cvAt]
          rw [hq, List.getElem?_append_left (by omega), hc0]
          show cAt w' c0 q.path = _
          rw [hcat.2 q.path r hr]; exact hczq
      · simp [hq] at hk
    · rintro d s c' (rfl | rfl) h1 h2
      · rw [List.getElem?_append_left (by omega), hget] at h1
        cases h1
        rw [List.getElem?_append_left (by omega), hc0] at h2
        cases h2
        rw [hFp']
        exact hcat.1
      · rw [List.getElem?_append_right (by omega)] at h1
        simp [hl'] at h1
        subst h1
        rw [List.getElem?_append_right (by omega)] at h2
        simp [hlen] at h2
        subst h2
        rw [hFn']
        exact hth
  · intro i s hi
    by_cases hip : i = p.s
    · subst hip; rw [hget] at hi; cases hi; rfl
    · rw [hother i hip] at hi
      cases hs : sl[i]? with
      | none => simp [hs] at hi
      | some s0 =>
        simp [hs] at hi; subst hi
        rw [hl']; exact okB_kill (R.ok i s0 hs)
end
end Go.Proofs.Ytffofdfikmpanaa.A
namespace Go.Proofs.Ytffofdfikmpanaa.A
set_option linter.unusedVariables false
set_option linter.unusedSimpArgs false
section
variable {P : Program} {X : Nat → Prop} {w : World} {sl : List S} {F : Nat → Nat → Prop} {a : Act} {gv : List Value}
def setv (cv : List Value) (dst : Option Nat) (c : Value) : List Value := match dst with | some d => cv.set d c | none => cv
theorem TRep.anyMe {Zs Zx : Nat → Prop} {me me' : Option Nat} {x : T} {c : Value} {G : Nat → Prop} (h : TRep P w Zs Zx me x c G) (hx : x ≠ .self) : TRep P w Zs Zx me' x c G := by
  cases h with
  | p me v c F h hF => exact .p _ v c _ h hF
  | own0 me ty ad F hF hn => exact .own0 _ ty ad _ hF hn
  | own me ty es b off cap vs fz F hw hc hsz hpos hfz hcl h1 h hF => exact .own _ ty es b off cap vs fz _ hw hc hsz hpos hfz hcl h1 h hF
  | opt me ty cs b vs F G hw hl h1 h hF hb hd => exact .opt _ ty cs b vs _ G hw hl h1 h hF hb hd
  | self b F hF => exact absurd rfl hx
  | tup me cs vs F G hl h hF hd => exact .tup _ cs vs _ G hl h hF hd
  | agg me cs vs F G hl h1 h hF hd => exact .agg _ cs vs _ G hl h1 h hF hd
  | ifc me t x c F h => exact .ifc _ t x c _ h
  | clo me f x c F h => exact .clo _ f x c _ h
  | dead me c F hF => exact .dead _ c _ hF
theorem HRel.putD {cv : List Value} {y : T} {c : Value} (R : HRel P w X sl cv y c F) {dst : Option Nat} {sl' : List S} (h : A.putD sl dst (.t y) = some sl') :
    ∃ F', Rel P w X sl' (setv cv dst c) F' ∧ To w F w F' := by
  cases dst with
  | none => simp only [A.putD, Option.some.injEq] at h; subst h; exact R.base
  | some d => exact R.lay h
theorem Rel.layVal {cv : List Value} (R : Rel P w X sl cv F) {s : S} {c : Value} (hv : Val P w X F sl cv s c) {dst : Option Nat} {sl' : List S} (h : A.putD sl dst s = some sl')
    (hs : ∀ x, s = .t x → ∃ v, x = .p v) : ∃ F', Rel P w X sl' (setv cv dst c) F' ∧ To w F w F' := by
  cases dst with
  | none => simp only [A.putD, Option.some.injEq] at h; subst h; exact ⟨F, R, To.refl _ _⟩
  | some d =>
    simp only [A.putD] at h
    cases s with
    | t x =>
      obtain ⟨v, rfl⟩ := hs x rfl
      obtain ⟨F1, R1, h1⟩ := R.give' (.p v) c (fun _ => False) (Turns.refl _ _) (fun _ h => h.elim) fun Zs Zx hz hx => .p none v c _ (PRep.mono hv zs_zx hz hx fun _ _ => rfl) fun _ => id
      obtain ⟨F2, R2, h2⟩ := R1.lay h
      exact ⟨F2, R2, h1.trans h2⟩
    | _ =>
      obtain ⟨hd, hok, hl, hget, hother⟩ := setD_get R h
      let F' : Nat → Nat → Prop := fun i b => if i = d then False else F i b
      have hF'o : ∀ i, i ≠ d → ∀ b, F' i b ↔ F i b := fun i hi b => by simp [F', hi]
      have hF'd : ∀ b, ¬ F' d b := fun b => by simp [F']
      have hto : To w F w F' := ⟨fun i b hb => by
        by_cases hi : i = d
        · subst hi; exact absurd hb (hF'd b)
        · exact .inl ⟨i, (hF'o i hi b).1 hb⟩, Turns.refl _ _⟩
      refine ⟨F', ?_, hto⟩
      refine R.upd (fun i => i = d) (Pl.keep ⟨d, []⟩ false) hl (by simp [setv]) (fun i hi => hother i hi) (fun i hi => by simp only [setv]; rw [List.getElem?_set_ne (Ne.symm hi)]) hF'o (Turns.refl _ _)
        (fun e he b hb => absurd hb (by subst he; exact hF'd b)) (fun e he b hb => absurd hb (by subst he; exact hF'd b)) (fun e e' b he he' _ _ => he.trans he'.symm)
        (fun q z cz hq hk _ _ _ => by rw [keep_self d q hq] at hk; cases hk) ?_
      rintro e s0 c0 rfl h1 h2
      rw [hget] at h1; cases h1
      simp only [setv] at h2
      rw [List.getElem?_set_self (by rw [← R.len]; exact hd)] at h2; cases h2
      have hfar : ∀ (q : Pl) (z : T) (cz : Value), q.s ≠ e → slAt sl q = some z → cvAt w cv q = some cz → slAt sl' q = some z ∧ cvAt w (setv cv (some e) c) q = some cz := by
        intro q z cz hq hz hc
        simp only [slAt, cvAt, setv] at *
        rw [hother q.s hq, List.getElem?_set_ne (Ne.symm hq)]
        cases hs0 : sl[q.s]? with
        | none => simp [hs0] at hz
        | some s1 => cases s1 <;> simp [hs0, S.killBy] at hz ⊢; exact ⟨hz, hc⟩
      first
        | (obtain ⟨vs, rfl, h2, h3⟩ := hv
           refine ⟨hF'd, vs, rfl, h2, fun i p v hp hv => ?_⟩
           obtain ⟨z, cz, h4, h5, h6⟩ := h3 i p v hp hv
           simp only [S.okB, List.all_eq_true] at hok
           have := hok p (List.mem_of_getElem? hp)
           obtain ⟨h7, h8⟩ := hfar p z cz (by simpa using this) h4 h5
           exact ⟨z, cz, h7, h8, h6⟩)
        | (obtain ⟨p, z, cz, hp, h4, h5, h6⟩ := hv
           cases hp
           obtain ⟨h7, h8⟩ := hfar _ z cz (by simpa [S.okB] using hok) h4 h5
           exact ⟨hF'd, _, z, cz, rfl, h7, h8, h6⟩)
theorem own_sl {w w' : World} {Zs0 Zx0 Zs Zx : Nat → Prop} {me : Option Nat} {ty : TypeId} {es : List V} {cz c : Value} {G : Nat → Prop} {p : Pl} {off len : Nat} {ex : Bool}
    (hT : TRep P w Zs0 Zx0 me (.own ty es) cz G) (hb : BRep P (.own ty es) cz (.bsl p off len ex) c) (sn : Bool) (hz : ∀ b, G b → if sn then Zx b else Zs b) (hm : ∀ b, Zs0 b → Zs b)
    (hw : ∀ b, G b ∨ Zs0 b → w'.heap[b]? = w.heap[b]?) : PRep w' Zs Zx (.sl sn ex (P.cellsOf ty) ((es.drop off).take len)) c := by
  obtain ⟨ty', es', ad, L, cap, ad', cap', he, rfl, h1, rfl, h3, h4, h5, h6⟩ := hb
  cases he
  by_cases hl0 : len = 0
  · subst hl0
    simp only [List.take_zero]
    exact .sl0 _ _ _ _ _ fun h => h5 h
  · have hlen : ((es.drop off).take len).length = len := by simp; omega
    cases hT with
    | own0 => simp at h1; omega
    | own me ty es b o cap vs fz F hw0 hc hsz hpos hfz hcl h1' h hF =>
      rcases h6 with ⟨h6, _⟩ | ⟨b', o', hbo, rfl⟩
      · omega
      · cases hbo
        have hGb : G b := (hF b).2 rfl
        have hcell : ∀ k, w'.cell? ⟨b, k, none⟩ = vs[k]? := fun k => by
          rw [World.cell?_of_block (w := w) (hw b (.inl hGb))]; exact cell_row hw0 k
        have hidx : ∀ i j, o + off * P.cellsOf ty + i * P.cellsOf ty + j = o + (off + i) * P.cellsOf ty + j := fun i j => by rw [Nat.add_mul]; omega
        have key : PRep w' Zs Zx (.sl sn ex (P.cellsOf ty) ((es.drop off).take len)) (.slice (some ⟨b, o + off * P.cellsOf ty, none⟩) ((es.drop off).take len).length cap') := by
          refine .sl sn ex _ _ b _ cap' (fun hh => by rw [hlen]; exact h5 hh) (by omega) (hz b hGb) (fun i e hi => hcl _ e (drop_take_get hi).1) (fun i j e v hi hj => h1' _ j e v (drop_take_get hi).1 hj)
            (fun i j e v hi hj => ?_) (fun i j e v c hi hj hcj => ?_)
          · obtain ⟨hi', hil⟩ := drop_take_get hi
            have hj' : j < P.cellsOf ty := by rw [← hcl _ e hi']; exact (List.getElem?_eq_some_iff.1 hj).1
            have hmul : (off + i) * P.cellsOf ty + P.cellsOf ty ≤ cap * P.cellsOf ty := mul_succ_le (k := 0) (by omega)
            rw [hcell, hidx]
            exact ⟨_, Array.getElem?_eq_getElem (by omega)⟩
          · obtain ⟨hi', hil⟩ := drop_take_get hi
            rw [hcell, hidx] at hcj
            exact (h _ j e v c hi' hj hcj).mono (fun _ h => h) hm hm fun b hb => hw b (.inr hb)
        rwa [hlen] at key
theorem own_all {w w' : World} {Zs0 Zx0 Zs Zx : Nat → Prop} {me : Option Nat} {ty : TypeId} {es : List V} {cz : Value} {G : Nat → Prop}
    (hT : TRep P w Zs0 Zx0 me (.own ty es) cz G) (hz : ∀ b, G b → Zs b) (hm : ∀ b, Zs0 b → Zs b) (hw : ∀ b, G b ∨ Zs0 b → w'.heap[b]? = w.heap[b]?) :
    PRep w' Zs Zx (.sl false false (P.cellsOf ty) es) cz := by
  have := own_sl hT (own_borrow hT ⟨0, []⟩) false (Zs := Zs) (Zx := Zx) hz hm hw
  simpa using this
theorem Rel.freeze {cv : List Value} (R : Rel P w X sl cv F) {p : Pl} {ty : TypeId} {es : List V} {off len : Nat} {ex : Bool} {c : Value} {sl' : List S}
    (hz : slAt sl p = some (.own ty es)) (hv : Val P w X F sl cv (.bsl p off len ex) c) (h : putN sl p (.p (.sl false false (P.cellsOf ty) es)) false = some sl') :
    ∃ F', HRel P w X sl' cv (.p (.sl false ex (P.cellsOf ty) ((es.drop off).take len))) c F' ∧ To w F w F' := by
  obtain ⟨F1, R1, h1⟩ := R.giveDead
  obtain ⟨me, cz, G, hcz, hT, hsub, _, hput⟩ := R1.node2 hz
  obtain ⟨q, z, cz', hq, hz', hcz', hb⟩ := hv
  cases hq
  rw [hz] at hz'; cases hz'
  rw [hcz] at hcz'; cases hcz'
  obtain ⟨F2, R2, h2⟩ := hput w (.p (.sl false false (P.cellsOf ty) es)) (.p (.sl false ex (P.cellsOf ty) ((es.drop off).take len))) c (fun _ => False) (fun _ => False) false sl' h (Turns.refl _ _)
    (fun _ h => h.elim) (fun _ h => h.elim) (fun _ h => h.elim id id |>.elim) (fun _ _ => id)
    (fun Zs Zx hs hx hf => ⟨.p me _ _ _ (own_all hT (fun b hb => (hf b (.inl hb) id id).1) hs fun _ _ => rfl) fun _ => id,
      .p none _ _ _ (own_sl hT hb false (fun b hb => (hf b (.inl hb) id id).1) hs fun _ _ => rfl) fun _ => id⟩)
    (fun v hv => by cases hv; rfl) (by simp)
  exact ⟨F2, R2, h1.trans h2⟩
theorem Rel.freezeBar {cv : List Value} (R : Rel P w X sl cv F) {p : Pl} {ty : TypeId} {cs : List T} {l : List V} {j len : Nat} {c : Value} {sl' : List S}
    (hz : slAt sl p = some (.opt ty cs)) (hl : elemsS.T.pures cs = some l) (hst : V.stabL l = true) (hv : Val P w X F sl cv (.bar p j 1 len) c) (h : putN sl p (.p (.ref false l)) false = some sl') :
    ∃ F', HRel P w X sl' cv (.p (.sl false false 1 ((l.drop j).take len))) c F' ∧ To w F w F' := by
  obtain ⟨F1, R1, h1⟩ := R.giveDead
  obtain ⟨me, cz, G, hcz, hT, hsub, _, hput⟩ := R1.node2 hz
  obtain ⟨q, z, cz', hq, hz', hcz', hb⟩ := hv
  cases hq
  rw [hz] at hz'; cases hz'
  rw [hcz] at hcz'; cases hcz'
  obtain ⟨ty', cs', b, ad, cap, h1', h2', rfl, hlc, hjc, had⟩ := hb
  cases h1'
  subst h2'
  obtain ⟨hlen, hget⟩ := pures_get hl
  cases hT with
  | opt _ _ _ _ vs _ G' hw0 hll h1o hrep hF hb hd =>
    have stab : ∀ (i : Nat) (v : V) (c : Value), l[i]? = some v → vs[i]? = some c → PRep w (zs w X F1) (zs w X F1) v c := fun i v c hi hc => by
      have := hrep i (.p v) c (hget i v hi) hc
      cases this with
      | p me v c F h hF => exact h.stay (stabL_get hst _ _ hi)
    have hvs : l.length = vs.size := by rw [← hll, hlen]
    have hdt : ∀ {i : Nat} {v : V}, ((l.drop j).take len)[i]? = some v → l[j + i]? = some v ∧ i < len := fun {i v} hi => by
      rw [List.getElem?_take] at hi
      split at hi
      · rename_i hlt; rw [List.getElem?_drop] at hi; exact ⟨hi, hlt⟩
      · cases hi
    obtain ⟨F2, R2, h2⟩ := hput w (.p (.ref false l)) (.p (.sl false false 1 ((l.drop j).take len))) (.slice ad len cap) (fun _ => False) (fun _ => False) false sl' h (Turns.refl _ _)
      (fun _ h => h.elim) (fun _ h => h.elim) (fun _ h => h.elim id id |>.elim) (fun _ _ => id)
      (fun Zs Zx hs hx hf => by
        have hbz := (hf b (.inl ((hF b).2 (.inl rfl))) id id).1
        refine ⟨.p me _ _ _ ?_ fun _ => id, .p none _ _ _ ?_ fun _ => id⟩
        · refine .ref false l b 0 hbz (fun j v hv => h1o j v (hget j v hv)) (fun j v hv => ?_) fun j v c hv hcv => ?_
          · have hj : j < vs.size := by rw [← hvs]; exact (List.getElem?_eq_some_iff.1 hv).1
            exact ⟨vs[j], by rw [Nat.zero_add, cell_row hw0]; exact Array.getElem?_eq_getElem hj⟩
          · rw [Nat.zero_add, cell_row hw0] at hcv
            exact (stab j v c hv hcv).mono (fun _ h => h) hs hs fun _ _ => rfl
        · have hone : ∀ (i : Nat) (v : V), l[i]? = some v → v.one = true := fun i v hv => h1o i v (hget i v hv)
          have hcells : ∀ {v : V}, v.one = true → v.cells = [v] := fun {v} hv => by cases v <;> first | rfl | simp [V.one] at hv
          have hll2 : ((l.drop j).take len).length = len := by simp; omega
          rcases Nat.eq_zero_or_pos len with h0 | h0
          · subst h0
            rw [List.take_zero]
            exact .sl0 _ _ _ _ _ (by simp)
          · have ha : ad = some ⟨b, j, none⟩ := had.resolve_left (by omega)
            subst ha
            have key : PRep w Zs Zx (.sl false false 1 ((l.drop j).take len)) (.slice (some ⟨b, j, none⟩) ((l.drop j).take len).length cap) := by
              refine .sl false false 1 _ b j cap (by simp) (by omega) hbz (fun i e hi => by rw [hcells (hone _ e (hdt hi).1)]; rfl) (fun i k e v hi hk => ?_) (fun i k e v hi hk => ?_) (fun i k e v c hi hk hcv => ?_)
              · rw [hcells (hone _ e (hdt hi).1)] at hk
                match k with
                | 0 => cases hk; exact hone _ e (hdt hi).1
                | k + 1 => simp at hk
              · have hj : j + i < vs.size := by rw [← hvs]; exact (List.getElem?_eq_some_iff.1 (hdt hi).1).1
                rw [hcells (hone _ e (hdt hi).1)] at hk
                match k with
                | 0 => exact ⟨vs[j + i], by rw [Nat.mul_one, Nat.add_zero, cell_row hw0]; exact Array.getElem?_eq_getElem hj⟩
                | k + 1 => simp at hk
              · rw [hcells (hone _ e (hdt hi).1)] at hk
                match k with
                | 0 =>
                  cases hk
                  rw [Nat.mul_one, Nat.add_zero, cell_row hw0] at hcv
                  exact (stab _ _ c (hdt hi).1 hcv).mono (fun _ h => h) hs hs fun _ _ => rfl
                | k + 1 => simp at hk
            rwa [hll2] at key)
      (fun v hv => by cases hv; rfl) (by simp)
    exact ⟨F2, R2, h1.trans h2⟩
theorem Rel.pick {cv : List Value} (R : Rel P w X sl cv F) {t : Nat} {x : T} {c : Value} (hx : sl[t]? = some (.t x)) (hc : cv[t]? = some c) (hs : x ≠ .self) :
    ∃ F', HRel P w X ((killP ⟨t, []⟩ false sl).set t (.t .dead)) cv x c F' ∧ To w F w F' := by
  obtain ⟨F1, R1, h1⟩ := R.giveDead
  obtain ⟨me, cz, G, hcz, hT, hsub, hGn, hput⟩ := R1.node2 (p := ⟨t, []⟩) (slAt_nil hx)
  rw [cvAt_nil hc] at hcz; cases hcz
  have hpn : putN sl ⟨t, []⟩ .dead false = some ((killP ⟨t, []⟩ false sl).set t (.t .dead)) := by simp [putN, hx, T.put]
  obtain ⟨F2, R2, h2⟩ := hput w .dead x c (fun _ => False) G false _ hpn (Turns.refl _ _) (fun _ h => h.elim) (fun b hb => .inl (.inl hb)) (fun b hb => hb.elim False.elim fun hb => R1.rel.lt _ b (hsub b hb)) (fun _ h => h.elim)
    (fun Zs Zx hs' hx' hf => ⟨.dead me _ _ fun _ => id, (hT.mono zs_zx hs' hx' fun _ _ => rfl).anyMe hs⟩) (by simp) (by simp)
  exact ⟨F2, R2, h1.trans h2⟩
theorem tk_run (R : Sit P w X sl F a gv) {x : Operand} (hx : OkT a x) {y : T} {sl' : List S} (h : tk P sl x = some (y, sl')) :
    ∃ F', HRel P w X sl' (a.tmps.toList ++ gv) y (a.eval x) F' ∧ To w F w F' := by
  have givePure : ∀ {v : V} {c : Value}, PRep w (zs w X F) (zx w F) v c → ∃ F', HRel P w X sl (a.tmps.toList ++ gv) (.p v) c F' ∧ To w F w F' := fun {v c} hv =>
    R.rel.give' (.p v) c (fun _ => False) (Turns.refl _ _) (fun _ h => h.elim) fun Zs Zx hz hx => .p none v c _ (hv.mono zs_zx hz hx fun _ _ => rfl) fun _ => id
  cases x with
  | const v =>
    simp only [tk] at h
    cases hk : konst v with
    | none => simp [hk] at h
    | some z =>
      simp only [hk, Option.some.injEq, Prod.mk.injEq] at h
      obtain ⟨rfl, rfl⟩ := h
      rcases konst_val hk w (zs w X F) (zx w F) with ⟨v', rfl, h1, _⟩ | ⟨rfl, rfl⟩
      · exact givePure h1
      · exact R.rel.give' _ _ (fun _ => False) (Turns.refl _ _) (fun _ h => h.elim) fun Zs Zx hz hx => .own0 none nilTy none _ (fun _ => id) fun _ => rfl
  | func f =>
    simp only [tk, Option.some.injEq, Prod.mk.injEq] at h
    obtain ⟨rfl, rfl⟩ := h
    exact givePure (.fn false f [] [] rfl (by simp))
  | global g => simp [tk] at h
  | tmp t =>
    have hc := eval_tmp (hx t rfl) gv
    simp only [tk] at h
    split at h
    · rename_i v hv
      cases h
      have := R.rel.slot t _ _ hv hc
      exact givePure (by cases this; assumption)
    · cases h
    · cases h
    · rename_i x hd hs' hself hxx
      cases h
      exact R.rel.pick hxx hc (fun he => hself (by rw [he]))
    · rename_i p off len ex hs0
      split at h
      · rename_i ty es hz
        split at h
        · rename_i sl1 hp
          cases h
          have hv : Val P w X F sl (a.tmps.toList ++ gv) (.bsl p off len ex) (a.eval (.tmp t)) := (R.rel.slot t _ _ hs0 hc).2
          exact R.rel.freeze hz hv hp
        · cases h
      · cases h
    · rename_i p j len hs0
      split at h
      · rename_i ty cs hz
        split at h
        · rename_i l hl
          split at h
          · rename_i hst
            split at h
            · rename_i sl1 hp
              cases h
              have hv : Val P w X F sl (a.tmps.toList ++ gv) (.bar p j 1 len) (a.eval (.tmp t)) := (R.rel.slot t _ _ hs0 hc).2
              exact R.rel.freezeBar hz hl hst hv hp
            · cases h
          · cases h
        · cases h
      · cases h
    · cases h
end
end Go.Proofs.Ytffofdfikmpanaa.A
namespace Go.Proofs.Ytffofdfikmpanaa.A
set_option linter.unusedVariables false
set_option linter.unusedSimpArgs false
section
variable {P : Program} {X : Nat → Prop}
theorem HRel.swap {w w' : World} {sl : List S} {cv : List Value} {h : T} {ch : Value} {F : Nat → Nat → Prop} (R : HRel P w X sl cv h ch F) (h' : T) (ch' : Value) (G : Nat → Prop)
    (hw : Turns w w' (F sl.length)) (hG : ∀ b, G b → F sl.length b ∨ w.heap.size ≤ b) (hlt : ∀ b, G b → b < w'.heap.size)
    (hrep : ∀ Zs Zx, (∀ b, zs w X F b → Zs b) → (∀ b, zx w F b → Zx b) → (∀ b, F sl.length b → ¬ G b → Zs b ∧ Zx b) → TRep P w' Zs Zx none h' ch' G) :
    ∃ F', HRel P w' X sl cv h' ch' F' ∧ To w F w' F' := by
  have hlen := R.len
  let F' : Nat → Nat → Prop := fun i b => if i = sl.length then G b else F i b
  have hF'n : F' sl.length = G := by funext b; simp [F']
  have hF'o : ∀ i, i ≠ sl.length → F' i = F i := fun i h => by funext b; simp [F', h]
  have hto : To w F w' F' := ⟨fun i b hb => by
    by_cases h : i = sl.length
    · subst h; rw [hF'n] at hb; exact (hG b hb).imp (fun h => ⟨_, h⟩) id
    · rw [hF'o i h] at hb; exact .inl ⟨_, hb⟩, hw.mono fun b hb => ⟨_, hb⟩⟩
  have hfree : ∀ b, F sl.length b → ¬ G b → zs w' X F' b ∧ zx w' F' b := by
    intro b hb hg
    have hno : ∀ i, ¬ F' i b := fun i hi => by
      by_cases h : i = sl.length
      · subst h; rw [hF'n] at hi; exact hg hi
      · rw [hF'o i h] at hi; exact h (R.rel.disj _ _ b hi hb)
    have := Nat.lt_of_lt_of_le (R.rel.lt _ b hb) hw.size
    exact ⟨⟨⟨this, hno⟩, R.rel.apart _ b hb⟩, this, hno⟩
  refine ⟨F', ⟨?_, R.ok⟩, hto⟩
  refine R.rel.upd (fun i => i = sl.length) (fun q => true && q.s != sl.length) (by simp) (by simp) ?_ ?_ (fun i hi b => by rw [hF'o i hi]) (hw.mono fun b hb => ⟨_, rfl, hb⟩) ?_ ?_ ?_ ?_ ?_
  · intro i hi
    by_cases hil : i < sl.length
    · rw [List.getElem?_append_left hil, List.getElem?_append_left hil]
      cases hs : sl[i]? with
      | none => rfl
      | some s0 => simp only [Option.map_some]; rw [killBy_ne (R.ok i s0 hs), killBy_true]
    · rw [List.getElem?_eq_none (by simp; omega), List.getElem?_eq_none (by simp; omega)]; rfl
  · intro i hi
    by_cases hil : i < sl.length
    · rw [List.getElem?_append_left (by omega), List.getElem?_append_left (by omega)]
    · rw [List.getElem?_eq_none (by simp; omega), List.getElem?_eq_none (by simp; omega)]
  · rintro d rfl b hb
    rw [hF'n] at hb; exact (hG b hb).imp (fun h => ⟨_, rfl, h⟩) id
  · rintro d rfl b hb
    rw [hF'n] at hb; exact hlt b hb
  · rintro d e b rfl rfl _ _; rfl
  · intro q z cz hq hk
    simp [hq] at hk
  · rintro d s c rfl h1 h2
    simp at h1
    rw [List.getElem?_append_right (by omega)] at h2
    simp [hlen] at h2
    subst h1; subst h2
    rw [hF'n]
    exact hrep _ _ hto.zs hto.zx hfree
theorem own_sub {w : World} {Zs Zx : Nat → Prop} {me : Option Nat} {ty : TypeId} {es : List V} {cz c : Value} {G : Nat → Prop} {p : Pl} {off len : Nat} {ex : Bool}
    (hT : TRep P w Zs Zx me (.own ty es) cz G) (hb : BRep P (.own ty es) cz (.bsl p off len ex) c) :
    ∃ G', TRep P w Zs Zx none (.own ty ((es.drop off).take len)) c G' ∧ ∀ b, G' b → G b := by
  obtain ⟨ty', es', ad, L, cap, ad', cap', he, rfl, h1, rfl, h3, h4, h5, h6⟩ := hb
  cases he
  by_cases h0 : cap' = 0
  · subst h0
    have : len = 0 := by omega
    subst this
    simp only [List.take_zero]
    refine ⟨fun _ => False, .own0 none ty _ _ (fun _ => id) fun h0 => ?_, fun _ h => h.elim⟩
    cases hT with
    | own0 _ _ _ _ _ hn =>
      rcases h6 with ⟨_, h6⟩ | ⟨b, o, h7, _⟩
      · exact h6 (hn h0)
      · rw [hn h0] at h7; cases h7
    | own => omega
  · rcases h6 with ⟨h6, _⟩ | ⟨b, o, rfl, rfl⟩
    · exact absurd h6 h0
    · have hlen : ((es.drop off).take len).length = len := by simp; omega
      cases hT with
      | own0 => simp at h1; omega
      | own me ty es b o cap vs fz F hw hc hsz hpos hfz hcl h1' h hF =>
        have hmul : off * P.cellsOf ty + cap' * P.cellsOf ty ≤ cap * P.cellsOf ty := by rw [← Nat.add_mul]; exact Nat.mul_le_mul_right _ h4
        have key : TRep P w Zs Zx none (.own ty ((es.drop off).take len)) (.slice (some ⟨b, o + off * P.cellsOf ty, none⟩) ((es.drop off).take len).length cap') G := by
          refine .own none ty _ b _ cap' vs fz _ hw (by omega) (by omega) hpos (fun k h1 h2 => hfz k (by omega) (by omega)) (fun i e hi => hcl _ e (drop_take_get hi).1)
            (fun i j e v hi hj => h1' _ j e v (drop_take_get hi).1 hj) (fun i j e v c hi hj hc => ?_) hF
          refine h (off + i) j e v c (drop_take_get hi).1 hj ?_
          rw [← hc]; congr 1; rw [Nat.add_mul]; omega
        rw [hlen] at key
        exact ⟨G, key, fun _ h => h⟩
theorem slotV {w : World} {sl : List S} {F : Nat → Nat → Prop} {cv : List Value} {s : S} {c : Value} {G : Nat → Prop} (h : SRep P w (zs w X F) (zx w F) sl cv s c G) (hs : ∀ x, s ≠ .t x) : Val P w X F sl cv s c := by
  cases s with
  | t x => exact absurd rfl (hs x)
  | _ => exact h.2
theorem assign_run {w : World} {sl : List S} {F : Nat → Nat → Prop} {a : Act} {gv : List Value} (R : Sit P w X sl F a gv) {x : Operand} (hx : OkT a x) {d : Nat} {sl' : List S} (h : assignOp P sl x d = some sl') :
    ∃ F', Rel P w X sl' (setv (a.tmps.toList ++ gv) (some d) (a.eval x)) F' ∧ To w F w F' := by
  have lay : ∀ {u : Option (T × List S)}, tk P sl x = u → (match u with | some (y, sl') => setD sl' d (.t y) | none => none) = some sl' → ∃ F', Rel P w X sl' (setv (a.tmps.toList ++ gv) (some d) (a.eval x)) F' ∧ To w F w F' := by
    intro u hu h
    cases u with
    | none => cases h
    | some u =>
      obtain ⟨y, sl1⟩ := u
      obtain ⟨F1, R1, h1⟩ := tk_run R hx hu
      obtain ⟨F2, R2, h2⟩ := R1.lay h
      exact ⟨F2, R2, h1.trans h2⟩
  unfold assignOp at h
  split at h
  · rename_i p off len ex hs
    cases x with
    | tmp u =>
      simp only at hs
      split at h
      · rename_i hp
        subst hp
        split at h
        · rename_i ty es hd
          cases h
          have hlt : d < (a.tmps.toList ++ gv).length := by rw [← R.rel.len]; exact (List.getElem?_eq_some_iff.1 hd).1
          have hc := eval_tmp (hx u rfl) gv
          obtain ⟨q, z, cz, hq, hz, hcz, hb⟩ := (R.rel.slot u _ _ hs hc).2
          cases hq
          rw [slAt_nil hd] at hz; cases hz
          have hcd : (a.tmps.toList ++ gv)[d]? = some cz := by
            simp only [cvAt] at hcz
            cases hcd : (a.tmps.toList ++ gv)[d]? with
            | none => simp [hcd] at hcz
            | some c => simpa [hcd, cAt] using hcz
          obtain ⟨F1, R1, h1⟩ := R.rel.pick hd hcd (by simp)
          obtain ⟨G', hG', hsub⟩ := own_sub R1.hand hb
          obtain ⟨F2, R2, h2⟩ := R1.swap (.own ty ((es.drop off).take len)) (a.eval (.tmp u)) G' (Turns.refl _ _) (fun b hb => .inl (hsub b hb)) (fun b hb => R1.rel.lt _ b (hsub b hb))
            (fun Zs Zx hs hx _ => hG'.mono zs_zx hs hx fun _ _ => rfl)
          have hset : setD ((killP ⟨d, []⟩ false sl).set d (.t .dead)) d (.t (.own ty ((es.drop off).take len))) = some ((killP ⟨d, []⟩ false sl).set d (.t (.own ty ((es.drop off).take len)))) := by
            have : d < (killP ⟨d, []⟩ false sl).length := by rw [killP_length]; exact (List.getElem?_eq_some_iff.1 hd).1
            simp [setD, List.getElem?_set_self this, S.okB, S.flat]
          obtain ⟨F3, R3, h3⟩ := R2.lay hset
          exact ⟨F3, R3, (h1.trans h2).trans h3⟩
        · cases h
      · exact lay rfl h
    | _ => cases hs
  iterate 4
    · rename_i hs
      cases x with
      | tmp u => exact R.rel.layVal (s := _) (c := a.eval (.tmp u)) (slotV (R.rel.slot u _ _ hs (eval_tmp (hx u rfl) gv)) (by simp)) (dst := some d) h (by simp)
      | _ => cases hs
  exact lay rfl h
end
end Go.Proofs.Ytffofdfikmpanaa.A
namespace Go.Proofs.Ytffofdfikmpanaa.A
set_option linter.unusedVariables false
set_option linter.unusedSimpArgs false
def flat (es : List V) : List V := es.flatMap V.cells
theorem flat_nil : flat [] = [] := rfl
theorem flat_cons (e : V) (es : List V) : flat (e :: es) = e.cells ++ flat es := by simp [flat]
theorem flat_app (es fs : List V) : flat (es ++ fs) = flat es ++ flat fs := by simp [flat]
theorem flat_len {sz : Nat} : ∀ {es : List V}, (∀ e ∈ es, e.cells.length = sz) → (flat es).length = es.length * sz
  | [], _ => by simp [flat_nil]
  | e :: es, h => by
    have := flat_len fun x hx => h x (List.mem_cons_of_mem e hx)
    rw [flat_cons, List.length_append, this, h e (by simp), List.length_cons, Nat.add_mul]; omega
theorem flat_get {sz : Nat} : ∀ {es : List V}, (∀ e ∈ es, e.cells.length = sz) → ∀ (i j : Nat) (e : V), es[i]? = some e → j < sz → (flat es)[i * sz + j]? = e.cells[j]?
  | [], _, i, j, e, h, _ => by simp at h
  | e0 :: es, hc, 0, j, e, h, hj => by
    simp at h; subst h
    rw [flat_cons, List.getElem?_append_left (by rw [hc e0 (by simp)]; omega)]; simp
  | e0 :: es, hc, i + 1, j, e, h, hj => by
    simp at h
    have h0 := hc e0 (by simp)
    have ih := flat_get (fun x hx => hc x (List.mem_cons_of_mem e0 hx)) i j e h hj
    have hlen : e0.cells.length ≤ (i + 1) * sz + j := by rw [h0, Nat.add_mul]; omega
    rw [flat_cons, List.getElem?_append_right hlen, h0, show (i + 1) * sz + j - sz = i * sz + j by rw [Nat.add_mul]; omega, ih]
theorem flat_inv {sz : Nat} : ∀ {es : List V}, (∀ e ∈ es, e.cells.length = sz) → ∀ (k : Nat) (v : V), (flat es)[k]? = some v → ∃ i j e, es[i]? = some e ∧ e.cells[j]? = some v ∧ k = i * sz + j
  | [], _, k, v, h => by simp [flat_nil] at h
  | e0 :: es, hc, k, v, h => by
    have h0 := hc e0 (by simp)
    rw [flat_cons] at h
    by_cases hk : k < sz
    · rw [List.getElem?_append_left (by omega)] at h
      exact ⟨0, k, e0, by simp, h, by simp⟩
    · rw [List.getElem?_append_right (by omega), h0] at h
      obtain ⟨i, j, e, h1, h2, h3⟩ := flat_inv (fun x hx => hc x (List.mem_cons_of_mem e0 hx)) _ v h
      exact ⟨i + 1, j, e, by simpa using h1, h2, by rw [Nat.add_mul]; omega⟩
theorem flat_drop {sz : Nat} : ∀ {es : List V}, (∀ e ∈ es, e.cells.length = sz) → ∀ n, flat (es.drop n) = (flat es).drop (n * sz)
  | [], _, n => by simp [flat_nil]
  | e :: es, h, 0 => by simp
  | e :: es, h, n + 1 => by
    have h0 := h e (by simp)
    rw [List.drop_succ_cons, flat_drop (fun x hx => h x (List.mem_cons_of_mem e hx)) n, flat_cons, show (n + 1) * sz = e.cells.length + n * sz by rw [h0, Nat.add_mul]; omega, List.drop_append]
    simp
theorem flat_take {sz : Nat} : ∀ {es : List V}, (∀ e ∈ es, e.cells.length = sz) → ∀ n, flat (es.take n) = (flat es).take (n * sz)
  | [], _, n => by simp [flat_nil]
  | e :: es, h, 0 => by simp [flat_nil]
  | e :: es, h, n + 1 => by
    have h0 := h e (by simp)
    rw [List.take_succ_cons, flat_cons, flat_take (fun x hx => h x (List.mem_cons_of_mem e hx)) n, flat_cons, show (n + 1) * sz = e.cells.length + n * sz by rw [h0, Nat.add_mul]; omega, List.take_append, List.take_of_length_le (Nat.le_add_right _ _)]
    simp
structure PW (w : World) (Z : Nat → Prop) (l : List V) (cs : List Value) : Prop where
  len : l.length = cs.length
  one : ∀ v ∈ l, v.one = true
  rep : ∀ (i : Nat) (v : V) (c : Value), l[i]? = some v → cs[i]? = some c → PRep w Z Z v c
theorem PRep.oneCell {w : World} {Zs Zx : Nat → Prop} {v : V} {c : Value} (h : PRep w Zs Zx v c) (h1 : v.one = true) : c.oneCell' = true := by
  cases h <;> first | rfl | (simp [V.one] at h1)
section
variable {w w' : World} {Z Z' : Nat → Prop} {l l' : List V} {cs cs' : List Value}
theorem PW.nil : PW w Z [] [] := ⟨rfl, by simp, by simp⟩
theorem PW.cell (h : PW w Z l cs) : ∀ c ∈ cs, c.oneCell' = true := by
  intro c hc
  obtain ⟨i, hi⟩ := List.getElem?_of_mem hc
  have hlt : i < l.length := by rw [h.len]; exact (List.getElem?_eq_some_iff.1 hi).1
  exact (h.rep i _ c (List.getElem?_eq_getElem hlt) hi).oneCell (h.one _ (List.getElem_mem hlt))
theorem PW.mono (h : PW w Z l cs) (hz : ∀ b, Z b → Z' b) (hw : ∀ b, Z b → w'.heap[b]? = w.heap[b]?) : PW w' Z' l cs :=
  ⟨h.len, h.one, fun i v c h1 h2 => (h.rep i v c h1 h2).mono (fun _ h => h) hz hz hw⟩
theorem PW.append (h : PW w Z l cs) (h' : PW w Z l' cs') : PW w Z (l ++ l') (cs ++ cs') :=
  ⟨by simp [h.len, h'.len], fun v hv => (List.mem_append.1 hv).elim (h.one v) (h'.one v), fun i v c h1 h2 => by
    by_cases hi : i < l.length
    · rw [List.getElem?_append_left hi] at h1
      rw [List.getElem?_append_left (by rw [← h.len]; exact hi)] at h2
      exact h.rep i v c h1 h2
    · rw [List.getElem?_append_right (by omega)] at h1
      rw [List.getElem?_append_right (by rw [← h.len]; omega), ← h.len] at h2
      exact h'.rep _ v c h1 h2⟩
theorem PW.take (h : PW w Z l cs) (n : Nat) : PW w Z (l.take n) (cs.take n) :=
  ⟨by simp [h.len], fun v hv => h.one v (List.mem_of_mem_take hv), fun i v c h1 h2 => by
    rw [List.getElem?_take] at h1 h2
    split at h1
    · rename_i hi
      rw [if_pos hi] at h2; exact h.rep i v c h1 h2
    · cases h1⟩
theorem PW.drop (h : PW w Z l cs) (n : Nat) : PW w Z (l.drop n) (cs.drop n) :=
  ⟨by simp [h.len], fun v hv => h.one v (List.mem_of_mem_drop hv), fun i v c h1 h2 => by
    rw [List.getElem?_drop] at h1 h2; exact h.rep _ v c h1 h2⟩
theorem PRep.cells {v : V} {c : Value} (h : PRep w Z Z v c) (h1 : ∀ u ∈ v.cells, u.one = true) : PW w Z v.cells c.cells.toList := by
  cases h with
  | agg cs vs hl h1' h => exact ⟨by simpa [V.cells, Value.cells] using hl, h1, fun i v c h2 h3 => h i v c (by simpa [V.cells] using h2) (by simpa [Value.cells] using h3)⟩
  | bool b => exact ⟨rfl, h1, fun i v c h2 h3 => by cases i <;> simp [V.cells, Value.cells] at h2 h3; subst h2; subst h3; constructor⟩
  | int k n => exact ⟨rfl, h1, fun i v c h2 h3 => by cases i <;> simp [V.cells, Value.cells] at h2 h3; subst h2; subst h3; constructor⟩
  | str s => exact ⟨rfl, h1, fun i v c h2 h3 => by cases i <;> simp [V.cells, Value.cells] at h2 h3; subst h2; subst h3; constructor⟩
  | nilp => exact ⟨rfl, h1, fun i v c h2 h3 => by cases i <;> simp [V.cells, Value.cells] at h2 h3; subst h2; subst h3; constructor⟩
  | anyp a => exact ⟨rfl, h1, fun i v c h2 h3 => by cases i <;> simp [V.cells, Value.cells] at h2 h3; subst h2; subst h3; constructor⟩
  | nilf => exact ⟨rfl, h1, fun i v c h2 h3 => by cases i <;> simp [V.cells, Value.cells] at h2 h3; subst h2; subst h3; constructor⟩
  | nili => exact ⟨rfl, h1, fun i v c h2 h3 => by cases i <;> simp [V.cells, Value.cells] at h2 h3; subst h2; subst h3; constructor⟩
  | lenO n a cap => exact ⟨rfl, h1, fun i v c h2 h3 => by cases i <;> simp [V.cells, Value.cells] at h2 h3; subst h2; subst h3; constructor⟩
  | sl0 snap ex sz a cap he => exact ⟨rfl, h1, fun i v c h2 h3 => by cases i <;> simp [V.cells, Value.cells] at h2 h3; subst h2; subst h3; exact .sl0 snap ex sz a cap he⟩
  | sl snap ex sz es b off cap he hc hz hcl h1' hd h => exact ⟨rfl, h1, fun i v c h2 h3 => by cases i <;> simp [V.cells, Value.cells] at h2 h3; subst h2; subst h3; exact .sl snap ex sz es b off cap he hc hz hcl h1' hd h⟩
  | ref snap cs b off hz h1' hd h => exact ⟨rfl, h1, fun i v c h2 h3 => by cases i <;> simp [V.cells, Value.cells] at h2 h3; subst h2; subst h3; exact .ref snap cs b off hz h1' hd h⟩
  | fn snap f caps vs hl h => exact ⟨rfl, h1, fun i v c h2 h3 => by cases i <;> simp [V.cells, Value.cells] at h2 h3; subst h2; subst h3; exact .fn snap f caps vs hl h⟩
  | ifc t v c h => exact ⟨rfl, h1, fun i v c h2 h3 => by cases i <;> simp [V.cells, Value.cells] at h2 h3; subst h2; subst h3; exact .ifc t _ _ h⟩
theorem PRep.cellsOne {Zx : Nat → Prop} {v : V} {c : Value} (h : PRep w Z Zx v c) : ∀ u ∈ v.cells, u.one = true := by
  intro u hu
  cases h with
  | agg cs vs hl h1' h =>
    obtain ⟨i, hi⟩ := List.getElem?_of_mem hu
    exact h1' i u (by simpa [V.cells] using hi)
  | _ => simp [V.cells] at hu; subst hu; rfl
theorem PRep.pw {v : V} {c : Value} (h : PRep w Z Z v c) : PW w Z v.cells c.cells.toList := h.cells h.cellsOne
variable {P : Program}
theorem own_pw {Zs Zx : Nat → Prop} {ty : TypeId} {es : List V} {vs : Array Value} {off cap : Nat} (hc : es.length ≤ cap) (hsz : off + cap * P.cellsOf ty ≤ vs.size)
    (hcl : ∀ (i : Nat) (e : V), es[i]? = some e → e.cells.length = P.cellsOf ty) (h1 : ∀ (i j : Nat) (e v : V), es[i]? = some e → e.cells[j]? = some v → v.one = true)
    (h : ∀ (i j : Nat) (e v : V) (c : Value), es[i]? = some e → e.cells[j]? = some v → vs[off + i * P.cellsOf ty + j]? = some c → PRep w Zs Zs v c) :
    (∀ e ∈ es, e.cells.length = P.cellsOf ty) ∧ PW w Zs (flat es) ((vs.toList.drop off).take (es.length * P.cellsOf ty)) := by
  have hcl' : ∀ e ∈ es, e.cells.length = P.cellsOf ty := fun e he => by obtain ⟨i, hi⟩ := List.getElem?_of_mem he; exact hcl i e hi
  have hmul : es.length * P.cellsOf ty ≤ cap * P.cellsOf ty := Nat.mul_le_mul_right _ hc
  refine ⟨hcl', by rw [flat_len hcl']; simp; omega, fun v hv => ?_, fun k v c hk hkc => ?_⟩
  · obtain ⟨e, he, hv⟩ := List.mem_flatMap.1 hv
    obtain ⟨i, hi⟩ := List.getElem?_of_mem he
    obtain ⟨j, hj⟩ := List.getElem?_of_mem hv
    exact h1 i j e v hi hj
  · obtain ⟨i, j, e, hi, hj, rfl⟩ := flat_inv hcl' k v hk
    refine h i j e v c hi hj ?_
    have hlt := (List.getElem?_eq_some_iff.1 hkc).1
    rw [List.getElem?_take, if_pos (by simp at hlt; omega), List.getElem?_drop, Array.getElem?_toList] at hkc
    rw [← hkc]; congr 1; omega
theorem own_mk {Zs Zx : Nat → Prop} {me : Option Nat} {ty : TypeId} {es : List V} {b off cap : Nat} {vs : Array Value} {fz : Nat × Nat} {F : Nat → Prop}
    (hw : w.heap[b]? = some (.cells vs ty fz)) (hc : es.length ≤ cap) (hsz : off + cap * P.cellsOf ty ≤ vs.size) (hpos : 0 < P.cellsOf ty)
    (hfz : ∀ k, off ≤ k → k < off + cap * P.cellsOf ty → ¬ (fz.1 ≤ k ∧ k < fz.2)) (hcl : ∀ e ∈ es, e.cells.length = P.cellsOf ty)
    (hp : PW w Zs (flat es) ((vs.toList.drop off).take (es.length * P.cellsOf ty))) (hF : ∀ x, F x ↔ x = b) : TRep P w Zs Zx me (.own ty es) (.slice (some ⟨b, off, none⟩) es.length cap) F := by
  have hcl' : ∀ (i : Nat) (e : V), es[i]? = some e → e.cells.length = P.cellsOf ty := fun i e hi => hcl e (List.mem_of_getElem? hi)
  refine .own me ty es b off cap vs fz F hw hc hsz hpos hfz hcl' (fun i j e v hi hj => hp.one v (List.mem_flatMap.2 ⟨e, List.mem_of_getElem? hi, List.mem_of_getElem? hj⟩)) (fun i j e v c hi hj hcj => ?_) hF
  have hj' : j < P.cellsOf ty := by rw [← hcl' i e hi]; exact (List.getElem?_eq_some_iff.1 hj).1
  have hi' : i < es.length := (List.getElem?_eq_some_iff.1 hi).1
  have hmul : i * P.cellsOf ty + P.cellsOf ty ≤ es.length * P.cellsOf ty := mul_succ_le (k := 0) hi'
  refine hp.rep (i * P.cellsOf ty + j) v c (by rw [flat_get hcl i j e hi hj']; exact hj) ?_
  rw [List.getElem?_take, if_pos (by omega), List.getElem?_drop, Array.getElem?_toList, ← hcj]; congr 1; omega
theorem splice_len {cs vs : List V} {j : Nat} (h : j + vs.length ≤ cs.length) : (splice cs j vs).length = cs.length := by simp [splice]; omega
theorem PW.splice (h : PW w Z l cs) (h' : PW w Z l' cs') (off : Nat) : PW w Z (A.splice l off l') (cs.take off ++ cs' ++ cs.drop (off + cs'.length)) := by
  have := ((h.take off).append h').append (h.drop (off + l'.length))
  rw [h'.len] at this
  simpa [A.splice, h'.len] using this
theorem set_list (off : Nat) : ∀ (l : List Value) (k : Nat) (cells : Array Value), off + k + l.length ≤ cells.size →
    ((l.zipIdx k).foldl (fun (cs : Array Value) (x : Value × Nat) => cs.setIfInBounds (off + x.2) x.1) cells).toList = cells.toList.take (off + k) ++ l ++ cells.toList.drop (off + k + l.length)
  | [], k, cells, _ => by simp
  | c :: l, k, cells, h => by
    simp only [List.length_cons] at h
    rw [List.zipIdx_cons, List.foldl_cons, set_list off l (k + 1) _ (by simp; omega)]
    have hlt : off + k < cells.toList.length := by simp; omega
    simp only [Array.toList_setIfInBounds, List.length_cons]
    rw [show off + (k + 1) = off + k + 1 by omega, List.take_add_one]
    rw [List.getElem?_set_self hlt]
    rw [List.take_set_of_le (Nat.le_refl _)]
    rw [List.drop_set_of_lt (by omega)]
    simp [show off + k + 1 + l.length = off + k + (l.length + 1) by omega]
theorem fold_set (off : Nat) (v cells : Array Value) (h : off + v.size ≤ cells.size) :
    (v.zipIdx.foldl (fun (cs : Array Value) (x : Value × Nat) => cs.setIfInBounds (off + x.2) x.1) cells).toList = cells.toList.take off ++ v.toList ++ cells.toList.drop (off + v.toList.length) := by
  have := set_list off v.toList 0 cells (by simpa using h)
  rw [← Array.foldl_toList]
  simpa using this
def PPs (w : World) (Z : Nat → Prop) : List (Nat × V) → List (Nat × Value) → Prop
  | [], [] => True
  | (i, v) :: r, (i', c) :: r' => i = i' ∧ PRep w Z Z v c ∧ PPs w Z r r'
  | _, _ => False
theorem PPs.mono : ∀ {l : List (Nat × V)} {r : List (Nat × Value)}, PPs w Z l r → (∀ b, Z b → Z' b) → (∀ b, Z b → w'.heap[b]? = w.heap[b]?) → PPs w' Z' l r
  | [], [], h, _, _ => h
  | _ :: _, _ :: _, h, hz, hw => ⟨h.1, h.2.1.mono (fun _ h => h) hz hz hw, h.2.2.mono hz hw⟩
  | [], _ :: _, h, _, _ => h.elim
  | _ :: _, [], h, _, _ => h.elim
theorem fill_run {place : Nat → Option (Nat × Nat)} : ∀ {ps : List (Nat × V)} {rs : List (Nat × Value)} {l out : List V} {cells : Array Value}, PPs w Z ps rs → PW w Z l cells.toList → fillV place l ps = some out →
    ∃ cells', Instr.fill place cells rs = some cells' ∧ PW w Z out cells'.toList
  | [], [], l, out, cells, _, hl, h => by
    simp only [fillV, Option.some.injEq] at h; subst h
    exact ⟨cells, rfl, hl⟩
  | (i, v) :: ps, (i', c) :: rs, l, out, cells, hp, hl, h => by
    obtain ⟨rfl, hv, hp⟩ := hp
    simp only [fillV] at h
    split at h
    · rename_i off size hpl
      split at h
      · rename_i hh
        have hpw := hv.pw
        have hsz : c.cells.size = size := by rw [← hh.1, hpw.len]; simp
        have hle : off + c.cells.size ≤ cells.size := by rw [hsz]; have := hl.len; simp at this; omega
        have hf := fold_set off c.cells cells hle
        obtain ⟨cells', h1, h2⟩ := fill_run (cells := c.cells.zipIdx.foldl (fun (cs : Array Value) (x : Value × Nat) => cs.setIfInBounds (off + x.2) x.1) cells) hp (by rw [hf]; exact hl.splice hpw off) h
        refine ⟨cells', ?_, h2⟩
        have hcond : ¬ ((decide (c.cells.size ≠ size) || decide (off + c.cells.size > cells.size)) = true) := by simp [hsz]; omega
        simp only [Instr.fill, hpl, if_neg hcond]
        exact h1
      · cases h
    · cases h
  | [], _ :: _, _, _, _, hp, _, _ => hp.elim
  | _ :: _, [], _, _, _, hp, _, _ => hp.elim
theorem flat_set {sz : Nat} {es : List V} (h : ∀ e ∈ es, e.cells.length = sz) {i : Nat} (hi : i < es.length) {v : V} (hv : v.cells.length = sz) : flat (es.set i v) = splice (flat es) (i * sz) v.cells := by
  rw [List.set_eq_take_append_cons_drop, if_pos hi, flat_app, flat_cons, flat_take h, flat_drop h]
  simp [splice, hv, Nat.add_mul]
theorem setParts_fill {sz : Nat} : ∀ {ps : List (Nat × V)} {es out : List V}, (∀ e ∈ es, e.cells.length = sz) → setParts sz es ps = some out →
    fillV (fun i => some (i * sz, sz)) (flat es) ps = some (flat out) ∧ (∀ e ∈ out, e.cells.length = sz) ∧ out.length = es.length
  | [], es, out, hc, h => by
    simp only [setParts, Option.some.injEq] at h; subst h
    exact ⟨rfl, hc, rfl⟩
  | (i, v) :: ps, es, out, hc, h => by
    simp only [setParts] at h
    split at h
    · rename_i hh
      have hc' : ∀ e ∈ es.set i v, e.cells.length = sz := fun e he => (List.mem_or_eq_of_mem_set he).elim (hc e) fun h => h ▸ hh.2
      obtain ⟨h1, h2, h3⟩ := setParts_fill hc' h
      refine ⟨?_, h2, by simpa using h3⟩
      have hmul : i * sz + sz ≤ es.length * sz := mul_succ_le (k := 0) hh.1
      simp only [fillV, if_pos (show v.cells.length = sz ∧ i * sz + sz ≤ (flat es).length from ⟨hh.2, by rw [flat_len hc]; exact hmul⟩)]
      rw [← flat_set hc hh.1 hh.2]
      exact h1
    · cases h
theorem zeros_pw {z : V} {cs : Array Value} (h : PW w Z z.cells cs.toList) (hs : 0 < cs.size) (n : Nat) : PW w Z (flat (List.replicate n z)) ((Array.range (n * cs.size)).map (cs[· % cs.size]!)).toList := by
  have hz : z.cells.length = cs.size := by rw [h.len]; simp
  have hc : ∀ e ∈ List.replicate n z, e.cells.length = cs.size := fun e he => by rw [(List.mem_replicate.1 he).2]; exact hz
  refine ⟨by rw [flat_len hc]; simp, fun v hv => ?_, fun k v c hk hkc => ?_⟩
  · obtain ⟨e, he, hv⟩ := List.mem_flatMap.1 hv
    rw [(List.mem_replicate.1 he).2] at hv
    exact h.one v hv
  · obtain ⟨i, j, e, hi, hj, rfl⟩ := flat_inv hc k v hk
    have he : e = z := (List.mem_replicate.1 (List.mem_of_getElem? hi)).2
    subst he
    have hj' : j < cs.size := by rw [← hz]; exact (List.getElem?_eq_some_iff.1 hj).1
    refine h.rep j v c hj ?_
    have hlt := (List.getElem?_eq_some_iff.1 hkc).1
    simp at hlt
    simp at hkc
    rw [List.getElem?_range (by omega)] at hkc
    simp at hkc
    have hm : j % cs.size = j := Nat.mod_eq_of_lt hj'
    rw [hm] at hkc
    rw [getElem!_pos cs j hj'] at hkc
    rw [← hkc]; simp [hj']
end
end Go.Proofs.Ytffofdfikmpanaa.A
namespace Go.Proofs.Ytffofdfikmpanaa.A
set_option linter.unusedVariables false
set_option linter.unusedSimpArgs false
section
variable {P : Program} {X : Nat → Prop} {w : World} {sl : List S} {F : Nat → Nat → Prop} {a : Act} {gv : List Value}
def Op1 (P : Program) (w : World) (X : Nat → Prop) (F : Nat → Nat → Prop) (cv : List Value) (sl' : List S) (dst : Option Nat) (m : Sem Value) : Prop :=
  ∃ c w' F', m.run P w = .ok c w' ∧ Rel P w' X sl' (setv cv dst c) F' ∧ To w F w' F'
theorem HRel.out {cv : List Value} {v : V} {ch : Value} (R : HRel P w X sl cv (.p v) ch F) : ∃ F', Rel P w X sl cv F' ∧ To w F w F' ∧ PRep w (zs w X F') (zx w F') v ch := by
  have hh := R.hand
  obtain ⟨F', R', h⟩ := R.base
  cases hh with
  | p me v c F hp hF => exact ⟨F', R', h, h.prep hp⟩
theorem HRel.freezeHand {cv : List Value} {ty : TypeId} {es : List V} {ch : Value} (R : HRel P w X sl cv (.own ty es) ch F) :
    ∃ F', HRel P w X sl cv (.p (.sl false false (P.cellsOf ty) es)) ch F' ∧ To w F w F' :=
  R.swap _ ch (fun _ => False) (Turns.refl _ _) (fun _ h => h.elim) (fun _ h => h.elim) fun Zs Zx hs hx hf =>
    .p none _ _ _ (own_all R.hand (fun b hb => (hf b hb id).1) hs fun _ _ => rfl) fun _ => id
theorem tkV_run (R : Sit P w X sl F a gv) {x : Operand} (hx : OkT a x) {v : V} {sl' : List S} (h : tkV P sl x = some (v, sl')) :
    ∃ F', Rel P w X sl' (a.tmps.toList ++ gv) F' ∧ To w F w F' ∧ PRep w (zs w X F') (zs w X F') v (a.eval x) := by
  unfold tkV at h
  split at h
  · rename_i u sl1 ht
    split at h
    · rename_i hst
      cases h
      obtain ⟨F1, R1, h1⟩ := tk_run R hx ht
      obtain ⟨F2, R2, h2, hp⟩ := R1.out
      exact ⟨F2, R2, h1.trans h2, hp.stay hst⟩
    · cases h
  · rename_i ty es sl1 ht
    cases h
    obtain ⟨F1, R1, h1⟩ := tk_run R hx ht
    obtain ⟨F2, R2, h2⟩ := R1.freezeHand
    obtain ⟨F3, R3, h3, hp⟩ := R2.out
    exact ⟨F3, R3, (h1.trans h2).trans h3, hp.stay rfl⟩
  · cases h
theorem tkT_run (R : Sit P w X sl F a gv) {t : TypeId} {x : Operand} (hx : OkT a x) {y : T} {sl' : List S} (h : tkT P t sl x = some (y, sl')) :
    ∃ F', HRel P w X sl' (a.tmps.toList ++ gv) y (a.eval x) F' ∧ To w F w F' := by
  unfold tkT at h
  split at h
  · rename_i z sl1 hz
    cases h
    obtain ⟨F1, R1, h1⟩ := tk_run R hx hz
    obtain ⟨F2, R2, h2⟩ := R1.swap (z.tag P t) (a.eval x) (F1 sl'.length) (Turns.refl _ _) (fun b hb => .inl hb) (fun b hb => R1.rel.lt _ b hb) fun Zs Zx hs hx _ => (R1.hand.tag t).mono zs_zx hs hx fun _ _ => rfl
    exact ⟨F2, R2, h1.trans h2⟩
  · cases h
theorem tkVT_run (R : Sit P w X sl F a gv) {t : TypeId} {x : Operand} (hx : OkT a x) {v : V} {sl' : List S} (h : tkVT P t sl x = some (v, sl')) :
    ∃ F', Rel P w X sl' (a.tmps.toList ++ gv) F' ∧ To w F w F' ∧ PRep w (zs w X F') (zs w X F') v (a.eval x) := by
  unfold tkVT at h
  split at h
  · rename_i z sl1 hz
    cases h
    obtain ⟨F1, R1, h1, h2⟩ := tkV_run R hx hz
    exact ⟨F1, R1, h1, h2.tag t⟩
  · cases h
theorem tkVs_run {ty : Nat → TypeId} : ∀ {ps : List (Nat × Operand)} {sl : List S} {F : Nat → Nat → Prop} {l : List (Nat × V)} {sl' : List S}, Sit P w X sl F a gv → (∀ p ∈ ps, OkT a p.2) → tkVs P ty sl ps = some (l, sl') →
    ∃ F', Rel P w X sl' (a.tmps.toList ++ gv) F' ∧ To w F w F' ∧ PPs w (zs w X F') l (ps.map fun (i, x) => (i, a.eval x))
  | [], sl, F, l, sl', R, _, h => by
    simp only [tkVs, Option.some.injEq, Prod.mk.injEq] at h
    obtain ⟨rfl, rfl⟩ := h
    exact ⟨F, R.rel, To.refl _ _, trivial⟩
  | (i, x) :: ps, sl, F, l, sl', R, hx, h => by
    simp only [tkVs] at h
    split at h
    · rename_i v sl1 h1
      split at h
      · rename_i l2 sl2 h2
        cases h
        obtain ⟨F1, R1, t1, p1⟩ := tkVT_run R (hx (i, x) (by simp)) h1
        obtain ⟨F2, R2, t2, p2⟩ := tkVs_run ⟨R1⟩ (fun p hp => hx p (List.mem_cons_of_mem _ hp)) h2
        exact ⟨F2, R2, t1.trans t2, rfl, t2.preps p1, p2⟩
      · cases h
    · cases h
theorem zV_rep {c : Value} {v : V} (h : zV c = some v) (w : World) (Zs Zx : Nat → Prop) : PRep w Zs Zx v c ∧ v.one = true ∧ v.cells = [v] ∧ c.cells = #[c] := by
  unfold zV at h
  split at h
  · cases h; exact ⟨.sl0 _ _ _ _ _ fun _ => rfl, rfl, rfl, rfl⟩
  · obtain ⟨h1, h2, h3, h4⟩ := kV_rep h w Zs Zx
    refine ⟨h1, h2, h4, ?_⟩
    unfold kV at h
    split at h <;> first | rfl | cases h
theorem zVs_rep : ∀ {cs : List Value} {l : List V}, zVs cs = some l → ∀ (w : World) (Z : Nat → Prop), PW w Z l cs
  | [], l, h, w, Z => by simp only [zVs, Option.some.injEq] at h; subst h; exact .nil
  | c :: cs, l, h, w, Z => by
    simp only [zVs] at h
    split at h
    · rename_i v l' h1 h2
      cases h
      obtain ⟨h3, h4, _⟩ := zV_rep h1 w Z Z
      have := zVs_rep h2 w Z
      refine ⟨by simp [this.len], fun u hu => (List.mem_cons.1 hu).elim (fun e => e ▸ h4) (this.one u), fun i u d hu hd => ?_⟩
      cases i with
      | zero => simp at hu hd; subst hu; subst hd; exact h3
      | succ i => simp at hu hd; exact this.rep i u d hu hd
    · cases h
theorem PW.tag {w : World} {Z : Nat → Prop} : ∀ {ts : List TypeId} {l : List V} {cs : List Value}, PW w Z l cs → PW w Z (tagL P ts l) cs
  | [], l, cs, h => by simpa [tagL] using h
  | t :: ts, [], cs, h => by simpa [tagL] using h
  | t :: ts, v :: l, [], h => by have := h.len; simp at this
  | t :: ts, v :: l, c :: cs, h => by
    have ih : PW w Z (tagL P ts l) cs := PW.tag ⟨by have := h.len; simpa using this, fun u hu => h.one u (by simp [hu]), fun i u d hu hd => h.rep (i + 1) u d (by simpa using hu) (by simpa using hd)⟩
    refine ⟨by simp [tagL, ih.len], fun u hu => ?_, fun i u d hu hd => ?_⟩
    · simp only [tagL, List.mem_cons] at hu
      rcases hu with rfl | hu
      · rw [V.tag_one]; exact h.one v (by simp)
      · exact ih.one u hu
    · cases i with
      | zero =>
        simp [tagL] at hu hd; subst hu; subst hd
        exact (h.rep 0 v c rfl rfl).tag t
      | succ i => simp [tagL] at hu hd; exact ih.rep i u d hu hd
theorem zeroOf_info {t : TypeId} {z : Value} (h : zeroOf P t = some z) : ∃ i, P.info? t = some i ∧ i.zero = some z ∧ i.size = P.cellsOf t ∧ i.bytes = P.bytesOf t := by
  unfold zeroOf at h
  cases hi : P.info? t with
  | none => simp [hi] at h
  | some i => simp [hi] at h; exact ⟨i, rfl, h, by simp [Program.cellsOf, hi], by simp [Program.bytesOf, hi]⟩
theorem zeroV_rep {t : TypeId} {v : V} (h : zeroV P t = some v) : ∃ z, zeroOf P t = some z ∧ (∀ (w : World) (Z : Nat → Prop), PW w Z v.cells z.cells.toList) := by
  unfold zeroV at h
  split at h
  · rename_i cs hz
    cases hl : zVs cs.toList with
    | none => simp [hl] at h
    | some l =>
      simp only [hl, Option.map_some, Option.some.injEq] at h
      subst h
      exact ⟨_, hz, fun w Z => by simpa [V.cells, Value.cells] using (zVs_rep hl w Z).tag⟩
  · rename_i z hne hz
    rw [Option.map_eq_some_iff] at h
    obtain ⟨u0, h, rfl⟩ := h
    refine ⟨z, hz, fun w Z => ?_⟩
    obtain ⟨h1, h2, h3, h4⟩ := zV_rep h w Z Z
    rw [V.tag_cells t h2, h4]
    exact ⟨rfl, by simpa [V.tag_one] using h2, fun i u d hu hd => by cases i <;> simp at hu hd; subst hu; subst hd; exact h1.tag t⟩
  · cases h
theorem agg_pw {Zs Zx : Nat → Prop} {l : List V} {cs : Array Value} (h : PW w Zs l cs.toList) (hz : ∀ b, Zs b → Zx b) : PRep w Zs Zx (.agg l) (.agg cs) := by
  have : PRep w Zs Zx (.agg l) (.agg cs.toList.toArray) := .agg l cs.toList h.len (fun i v hv => h.one v (List.mem_of_getElem? hv)) fun i v c h1 h2 => (h.rep i v c h1 h2).mono (fun _ h => h) (fun _ h => h) hz fun _ _ => rfl
  simpa using this
theorem places_list : ∀ (fs : List Field), (∀ f ∈ fs, (P.info? f.type).isSome = true) → fs.mapM (fun f => (P.info? f.type).map fun i => (f.offset, i.size)) = some (fs.map fun f => (f.offset, P.cellsOf f.type))
  | [], _ => rfl
  | f :: fs, h => by
    obtain ⟨i, hi⟩ := Option.isSome_iff_exists.1 (h f (by simp))
    have hc : P.cellsOf f.type = i.size := by simp [Program.cellsOf, hi]
    simp [List.mapM_cons, places_list fs (fun g hg => h g (by simp [hg])), hi, hc]
theorem build_run {t : TypeId} {ps : List (Nat × V)} {rs : Array (Nat × Value)} {v : V} {Z : Nat → Prop} (hp : PPs w Z ps rs.toList) (h : buildOp P t ps = some v) :
    ∃ cells l, v = .agg l ∧ (Instr.build t rs).run P w = .ok (.agg cells) w ∧ PW w Z l cells.toList := by
  have agg : ∀ {z : List V}, zeroV P t = some (.agg z) → ∃ zv, zeroOf P t = some zv ∧ PW w Z z zv.cells.toList := fun hz => let ⟨zv, h1, h2⟩ := zeroV_rep hz; ⟨zv, h1, h2 w Z⟩
  unfold buildOp at h
  split at h
  · rename_i z fs hz hu
    split at h
    · rename_i hall
      cases hf : fillV (fun i => (fs[i]?).map fun f => (f.offset, P.cellsOf f.type)) z ps with
      | none => simp [hf] at h
      | some out =>
        simp only [hf, Option.map_some, Option.some.injEq] at h
        subst h
        obtain ⟨zv, h1, h2⟩ := agg hz
        obtain ⟨i, hi, hiz, _⟩ := zeroOf_info h1
        obtain ⟨cells, h3, h4⟩ := fill_run hp h2 hf
        refine ⟨cells, out, rfl, run_build w t rs cells ?_, h4⟩
        have hpl := places_list (P := P) fs.toList (fun f hf => Array.all_eq_true'.1 hall f (Array.mem_toList_iff.1 hf))
        have hfun : (fun (i : Nat) => (fs.toList.map fun (f : Field) => (f.offset, P.cellsOf f.type)).toArray[i]?) = (fun (i : Nat) => (fs[i]?).map fun f => (f.offset, P.cellsOf f.type)) := by
          funext i; simp
        simp only [Program.built, hi, hu, hiz, hpl, hfun]
        exact h3
    · cases h
  · rename_i z n e hz hu
    split at h
    · rename_i hie
      obtain ⟨ie, hie⟩ := Option.isSome_iff_exists.1 hie
      have hc : P.cellsOf e = ie.size := by simp [Program.cellsOf, hie]
      cases hf : fillV (fun i => some (i * P.cellsOf e, P.cellsOf e)) z ps with
      | none => simp [hf] at h
      | some out =>
        simp only [hf, Option.map_some, Option.some.injEq] at h
        subst h
        obtain ⟨zv, h1, h2⟩ := agg hz
        obtain ⟨i, hi, hiz, _⟩ := zeroOf_info h1
        obtain ⟨cells, h3, h4⟩ := fill_run hp h2 hf
        refine ⟨cells, out, rfl, run_build w t rs cells ?_, h4⟩
        rw [hc] at h3
        simp only [Program.built, hi, hu, hiz, hie]
        exact h3
    · cases h
  · cases h
theorem give_pure {cv : List Value} (R : Rel P w X sl cv F) {v : V} {c : Value} (hv : PRep w (zs w X F) (zx w F) v c) {dst : Option Nat} {sl' : List S} (h : putD sl dst (.v v) = some sl') :
    ∃ F', Rel P w X sl' (setv cv dst c) F' ∧ To w F w F' := by
  obtain ⟨F1, R1, h1⟩ := R.give' (.p v) c (fun _ => False) (Turns.refl _ _) (fun _ h => h.elim) fun Zs Zx hz hx => .p none v c _ (hv.mono zs_zx hz hx fun _ _ => rfl) fun _ => id
  obtain ⟨F2, R2, h2⟩ := R1.putD h
  exact ⟨F2, R2, h1.trans h2⟩
theorem op_build (R : Sit P w X sl F a gv) {t : TypeId} {parts : Array (Nat × Operand)} (hx : ∀ p ∈ parts.toList, OkT a p.2) {l : List (Nat × V)} {sl1 sl' : List S} {v : V} {dst : Option Nat}
    (h1 : tkVs P (partTy P t) sl parts.toList = some (l, sl1)) (h2 : buildOp P t l = some v) (h3 : putD sl1 dst (.v v) = some sl') :
    Op1 P w X F (a.tmps.toList ++ gv) sl' dst (Instr.build t (parts.map fun (i, x) => (i, a.eval x))) := by
  obtain ⟨F1, R1, t1, p1⟩ := tkVs_run R hx h1
  have hrs : (parts.map fun (i, x) => (i, a.eval x)).toList = parts.toList.map fun (i, x) => (i, a.eval x) := by simp
  obtain ⟨cells, out, rfl, hr, hp⟩ := build_run (P := P) (rs := parts.map fun (i, x) => (i, a.eval x)) (by rw [hrs]; exact p1) h2
  obtain ⟨F2, R2, t2⟩ := give_pure R1 (agg_pw hp zs_zx) h3
  exact ⟨_, w, F2, hr, R2, t1.trans t2⟩
theorem Turns.alloc (w : World) (o : Obj) (O : Nat → Prop) : Turns w (w.alloc o) O := ⟨rfl, rfl, rfl, by simp, fun b hb _ => by show (w.heap.push o)[b]? = _; rw [Array.getElem?_push, if_neg (by omega)]⟩
theorem Turns.drewAlloc (w : World) (o : Obj) (O : Nat → Prop) : Turns w (w.drew.alloc o) O := ⟨rfl, rfl, rfl, by simp, fun b hb _ => by show (w.heap.push o)[b]? = _; rw [Array.getElem?_push, if_neg (by omega)]⟩
theorem give_row {cv : List Value} (R : Rel P w X sl cv F) {w' : World} (hw : Turns w w' (fun _ => False)) {e : TypeId} {vs : Array Value} {fz : Nat × Nat} (hb : w'.heap[w.heap.size]? = some (.cells vs e fz)) {cap : Nat} {es : List V}
    (hc : es.length ≤ cap) (hsz : cap * P.cellsOf e ≤ vs.size) (hpos : 0 < P.cellsOf e) (hfz : ∀ k, k < cap * P.cellsOf e → ¬ (fz.1 ≤ k ∧ k < fz.2)) (hcl : ∀ x ∈ es, x.cells.length = P.cellsOf e)
    (hp : PW w (zs w X F) (flat es) (vs.toList.take (es.length * P.cellsOf e))) {dst : Option Nat} {sl' : List S} (h : putD sl dst (.t (.own e es)) = some sl') :
    ∃ F', Rel P w' X sl' (setv cv dst (.slice (some ⟨w.heap.size, 0, none⟩) es.length cap)) F' ∧ To w F w' F' := by
  have hlt : w.heap.size < w'.heap.size := (Array.getElem?_eq_some_iff.1 hb).1
  obtain ⟨F1, R1, h1⟩ := R.give' (.own e es) (.slice (some ⟨w.heap.size, 0, none⟩) es.length cap) (fun b => b = w.heap.size) hw (fun b hb => by subst hb; exact ⟨Nat.le_refl _, hlt⟩)
    fun Zs Zx hz hx => own_mk hb hc (by omega) hpos (fun k _ hk => hfz k (by omega)) hcl (by
      simp only [List.drop_zero]
      exact hp.mono hz fun b hb => hw.block b hb.1.1 id) fun x => Iff.rfl
  obtain ⟨F2, R2, h2⟩ := R1.putD h
  exact ⟨F2, R2, h1.trans h2⟩
theorem wellEl_len {e : TypeId} {v : V} (h : wellEl P e v = true) : v.cells.length = P.cellsOf e := by
  simp only [wellEl, Bool.and_eq_true, beq_iff_eq] at h; exact h.1.1
theorem op_makeSlice (R : Sit P w X sl F a gv) {t e : TypeId} {l c : Int} {kl kc : IntKind} {z : V} {sl' : List S} {dst : Option Nat} (ht : P.underlying t = some (.slice e)) (hz : zeroV P e = some z)
    (h0 : 0 ≤ l) (h1 : l ≤ c) (h2 : c ≤ 2147483648) (h3 : P.bytesOf e ≤ 65536) (h4 : wellEl P e z = true) (h5 : 0 < P.cellsOf e) (h : putD sl dst (.t (.own e (List.replicate l.toNat z))) = some sl') :
    Op1 P w X F (a.tmps.toList ++ gv) sl' dst (Instr.makeSlice t (.int kl l) (.int kc c)) := by
  obtain ⟨zv, hz1, hz2⟩ := zeroV_rep hz
  obtain ⟨i, hi, hiz, hsize, hbytes⟩ := zeroOf_info hz1
  have hb : (i.bytes : Int) * c ≤ 281474976710656 := by
    rw [hbytes]
    have h3' : ((P.bytesOf e : Nat) : Int) ≤ 65536 := by omega
    have := Int.mul_le_mul h3' h2 (by omega) (by decide)
    omega
  have hr := run_make (P := P) w t e i zv ht hi hiz kl kc l c h0 h1 hb (by omega)
  have hlen := wellEl_len h4
  have hzs : zv.cells.size = P.cellsOf e := by have := (hz2 w (zs w X F)).len; simp at this; omega
  have hc : ∀ x ∈ List.replicate c.toNat z, x.cells.length = P.cellsOf e := fun x hx => by rw [(List.mem_replicate.1 hx).2]; exact hlen
  have hpw := zeros_pw (hz2 w (zs w X F)) (by omega) c.toNat
  have hpw' := hpw.take (l.toNat * P.cellsOf e)
  rw [← flat_take hc, List.take_replicate, Nat.min_eq_left (by omega)] at hpw'
  obtain ⟨F', R', h'⟩ := give_row R.rel (w' := w.alloc (.cells (madeCells zv.cells (c.toNat * i.size)) e)) (Turns.alloc _ _ _) (heap_alloc_new w _) (cap := c.toNat) (es := List.replicate l.toNat z) (by simp; omega)
    (by rw [size_madeCells, hsize]; exact Nat.le_refl _) h5 (by simp) (fun x hx => by rw [(List.mem_replicate.1 hx).2]; exact hlen) (by
      simp only [List.length_replicate]
      rw [hzs] at hpw'
      rw [hsize, madeCells]
      rw [hzs]
      exact hpw') h
  simp only [List.length_replicate] at R'
  exact ⟨_, _, F', hr, R', h'⟩
theorem bytes_pw {Z : Nat → Prop} (l : List UInt8) : PW w Z (flat (bytesV l)) (l.map fun b => Value.int .u8 b.toNat) := by
  have hf : flat (bytesV l) = bytesV l := by
    induction l with
    | nil => rfl
    | cons b l ih => simp only [bytesV, List.map_cons] at *; rw [flat_cons, ih]; rfl
  rw [hf]
  refine ⟨by simp [bytesV], fun v hv => ?_, fun i v c hv hc => ?_⟩
  · simp only [bytesV, List.mem_map] at hv; obtain ⟨b, _, rfl⟩ := hv; rfl
  · simp only [bytesV, List.getElem?_map] at hv hc
    cases hb : l[i]? with
    | none => simp [hb] at hv
    | some b => simp [hb] at hv hc; subst hv; subst hc; exact .int _ _
theorem op_bytes (R : Sit P w X sl F a gv) {s d e : TypeId} {l : List UInt8} {sl' : List S} {dst : Option Nat} (hs : P.underlying s = some .string) (hd : P.underlying d = some (.slice e)) (he : P.underlying e = some (.int .u8))
    (h1 : P.cellsOf e = 1) (h : putD sl dst (.t (.own e (bytesV l))) = some sl') :
    Op1 P w X F (a.tmps.toList ++ gv) sl' dst (convert s d (.string ⟨l.toArray⟩)) := by
  have hsz : (⟨l.toArray⟩ : ByteArray).size = l.length := by simp [ByteArray.size]
  have hr := run_bytes_of_string (P := P) w s d e ⟨l.toArray⟩ hs hd he
  have hlen : (bytesV l).length = l.length := by simp [bytesV]
  have hge := grownCap_ge w l.length 0 e
  have hrow : (bytesRow ⟨l.toArray⟩ (grownCap w l.length 0 e)).size = grownCap w l.length 0 e := by simp [bytesRow, hsz]; omega
  rw [hsz] at hr
  obtain ⟨F', R', h'⟩ := give_row R.rel (w' := w.drew.alloc (.cells (bytesRow ⟨l.toArray⟩ (grownCap w l.length 0 e)) e ((bytesRow ⟨l.toArray⟩ (grownCap w l.length 0 e)).size, (bytesRow ⟨l.toArray⟩ (grownCap w l.length 0 e)).size + 1)))
    (Turns.drewAlloc _ _ _) (heap_alloc_new w.drew _) (cap := grownCap w l.length 0 e) (es := bytesV l) (by omega) (by rw [h1, hrow]; omega) (by omega) (fun k hk hh => by rw [h1] at hk; rw [hrow] at hh; simp at hh; omega)
    (fun x hx => by simp only [bytesV, List.mem_map] at hx; obtain ⟨b, _, rfl⟩ := hx; rw [h1]; rfl) (by
      rw [h1, Nat.mul_one, hlen]
      have : (bytesRow ⟨l.toArray⟩ (grownCap w l.length 0 e)).toList.take l.length = l.map fun b => Value.int .u8 b.toNat := by
        simp [bytesRow]
      rw [this]
      exact bytes_pw l) h
  rw [hlen] at R'
  exact ⟨_, _, F', hr, R', h'⟩
theorem op_buildSlice (R : Sit P w X sl F a gv) {t e : TypeId} {len : Nat} {parts : Array (Nat × Operand)} (hx : ∀ p ∈ parts.toList, OkT a p.2) {l : List (Nat × V)} {es : List V} {sl1 sl' : List S} {dst : Option Nat}
    (ht : P.underlying t = some (.slice e)) (h1 : tkVs P (partTy P t) sl parts.toList = some (l, sl1))
    (h2 : (if len = 0 then (if l.isEmpty then some [] else none) else match zeroV P e with | some z => if wellEl P e z then setParts (P.cellsOf e) (List.replicate len z) l else none | none => none) = some es)
    (h3 : len ≤ 65536) (h4 : P.cellsOf e ≤ 256) (h5 : 0 < P.cellsOf e) (h : putD sl1 dst (.t (.own e es)) = some sl') :
    Op1 P w X F (a.tmps.toList ++ gv) sl' dst (Instr.buildSlice t len (parts.map fun (i, x) => (i, a.eval x))) := by
  obtain ⟨F1, R1, t1, p1⟩ := tkVs_run R hx h1
  have hrs : (parts.map fun (i, x) => (i, a.eval x)).toList = parts.toList.map fun (i, x) => (i, a.eval x) := by simp
  have hinfo : ∃ ie, P.info? e = some ie ∧ ie.size = P.cellsOf e := by
    unfold Program.cellsOf at h5 ⊢
    cases hi : P.info? e with
    | none => simp [hi] at h5
    | some i => exact ⟨i, rfl, by simp⟩
  obtain ⟨ie, hie, hsize⟩ := hinfo
  split at h2
  · rename_i hl0
    subst hl0
    split at h2
    · rename_i hle
      cases h2
      have hl : l = [] := by simpa using hle
      subst hl
      have hpe : parts = #[] := by
        obtain ⟨parts⟩ := parts
        cases parts with
        | nil => rfl
        | cons y ys =>
          have p1' : PPs w (zs w X F1) [] ((y :: ys).map fun (x : Nat × Operand) => (x.1, a.eval x.2)) := p1
          exact p1'.elim
      subst hpe
      have hr : (Instr.buildSlice t 0 ((#[] : Array (Nat × Operand)).map fun (i, x) => (i, a.eval x))).run P w = .ok (.slice (some ⟨w.heap.size, 0, none⟩) 0 0) (w.alloc (.cells #[] e)) := by
        simp [Instr.buildSlice, Go.run_underlying ht, sizeOf, typeInfo, hie, Instr.fill, newRow, Array.range_zero']
      obtain ⟨F2, R2, h2⟩ := give_row R1 (w' := w.alloc (.cells #[] e)) (Turns.alloc _ _ _) (heap_alloc_new w _) (cap := 0) (es := []) (by simp) (by simp) h5 (by simp) (by simp) (by simpa [flat_nil] using PW.nil) h
      exact ⟨_, _, F2, hr, R2, t1.trans h2⟩
    · cases h2
  · rename_i hl0
    split at h2
    · rename_i z hz
      split at h2
      · rename_i hwl
        have hlen := wellEl_len hwl
        obtain ⟨zv, hz1, hz2⟩ := zeroV_rep hz
        obtain ⟨i, hi, hiz, _, _⟩ := zeroOf_info hz1
        rw [hie] at hi; cases hi
        have hzs : zv.cells.size = P.cellsOf e := by have := (hz2 w (zs w X F1)).len; simp at this; omega
        have hc : ∀ x ∈ List.replicate len z, x.cells.length = P.cellsOf e := fun x hx => by rw [(List.mem_replicate.1 hx).2]; exact hlen
        obtain ⟨hf, hcl, hol⟩ := setParts_fill hc h2
        have hpw := zeros_pw (hz2 w (zs w X F1)) (by omega) len
        obtain ⟨cells, hfr, hfp⟩ := fill_run (rs := (parts.map fun (i, x) => (i, a.eval x)).toList) (cells := (Array.range (len * zv.cells.size)).map (zv.cells[· % zv.cells.size]!)) (by rw [hrs]; exact p1) hpw hf
        have hmul : len * ie.size ≤ 65536 * 256 := by rw [hsize]; exact Nat.mul_le_mul h3 h4
        have hpos' : 0 < len * ie.size := by rw [hsize]; exact Nat.mul_pos (by omega) h5
        rw [hzs] at hfr
        rw [← hsize] at hfr
        have hr := run_buildSlice (P := P) w t e len (parts.map fun (i, x) => (i, a.eval x)) cells ie zv ht hie hiz (by omega) (by omega) (by rw [hzs, ← hsize]; exact hfr)
        have hsz : cells.size = len * P.cellsOf e := by
          have := hfp.len
          rw [flat_len hcl, hol] at this
          simpa using this.symm
        have hol' : es.length = len := by simpa using hol
        obtain ⟨F2, R2, h2⟩ := give_row R1 (w' := w.alloc (.cells cells e)) (Turns.alloc _ _ _) (heap_alloc_new w _) (cap := len) (es := es) (by omega) (by omega) h5 (by simp) hcl
          (by rw [List.take_of_length_le (by simp [hsz, hol'])]; exact hfp) h
        rw [hol'] at R2
        exact ⟨_, _, F2, hr, R2, t1.trans h2⟩
      · cases h2
    · cases h2
end
end Go.Proofs.Ytffofdfikmpanaa.A
namespace Go.Proofs.Ytffofdfikmpanaa.A
set_option linter.unusedVariables false
set_option linter.unusedSimpArgs false
section
variable {P : Program} {X : Nat → Prop} {w : World} {sl : List S} {F : Nat → Nat → Prop} {a : Act} {gv : List Value}
theorem kTs_rep : ∀ {cs : List Value} {l : List T}, kTs cs = some l → cs.length = l.length ∧ ∀ (w : World) (Zs Zx : Nat → Prop) (me : Option Nat) (i : Nat) (x : T) (c : Value), l[i]? = some x → cs[i]? = some c →
    TRep P w Zs Zx me x c (fun _ => False) ∧ ∀ v, x = .p v → v.one = true
  | [], l, h => by simp only [kTs, Option.some.injEq] at h; subst h; simp
  | c :: cs, l, h => by
    simp only [kTs] at h
    split at h
    · rename_i x l' h1 h2
      cases h
      obtain ⟨h3, h4⟩ := kTs_rep h2
      refine ⟨by simp [h3], fun w Zs Zx me i y d hy hd => ?_⟩
      cases i with
      | succ i => simp at hy hd; exact h4 w Zs Zx me i y d hy hd
      | zero =>
        simp at hy hd; subst hy; subst hd
        unfold kT at h1
        split at h1
        · cases h1; exact ⟨.own0 me nilTy none _ (fun _ => id) fun _ => rfl, by simp⟩
        · rename_i hne
          cases hk : kV c with
          | none => simp [hk] at h1
          | some v =>
            simp only [hk, Option.map_some, Option.some.injEq] at h1
            subst h1
            obtain ⟨h5, h6, _⟩ := kV_rep hk w Zs Zx
            exact ⟨.p me v c _ h5 fun _ => id, fun u hu => by cases hu; exact h6⟩
    · cases h
theorem tagTs_rep : ∀ {ts : List TypeId} {l : List T}, (tagTs P ts l).length = l.length ∧ ∀ (i : Nat) (y : T), (tagTs P ts l)[i]? = some y → ∃ x, l[i]? = some x ∧ (y = x ∨ ∃ t, y = x.tag P t)
  | [], l => by simp only [tagTs, true_and]; exact fun i y h => ⟨y, h, .inl rfl⟩
  | t :: ts, [] => by simp [tagTs]
  | t :: ts, x :: l => by
    obtain ⟨h1, h2⟩ := tagTs_rep (ts := ts) (l := l)
    refine ⟨by simp [tagTs, h1], fun i y hy => ?_⟩
    cases i with
    | zero => simp [tagTs] at hy; exact ⟨x, rfl, .inr ⟨t, hy.symm⟩⟩
    | succ i => simp [tagTs] at hy; simpa using h2 i y hy
theorem tag_p {t : TypeId} {x : T} {v : V} (h : x.tag P t = .p v) : ∃ u, x = .p u ∧ v = u.tag P t := by
  cases x <;> simp only [T.tag] at h
  · cases h; exact ⟨_, rfl, rfl⟩
  · repeat' split at h
    all_goals cases h
  all_goals cases h
theorem op_alloc {cv : List Value} (R : Rel P w X sl cv F) {t : TypeId} {z : Value} {cs : List T} {dst : Option Nat} {sl' : List S} {tys : List TypeId} (hz : zeroOf P t = some z) (hk : kTs z.cells.toList = some cs) (h : putD sl dst (.t (.opt t (tagTs P tys cs))) = some sl') :
    Op1 P w X F cv sl' dst (Instr.alloc t true (.tuple #[])) := by
  obtain ⟨i, hi, hiz, _⟩ := zeroOf_info hz
  obtain ⟨hl, hrep⟩ := kTs_rep (P := P) hk
  have hr : (Instr.alloc t true (.tuple #[])).run P w = .ok (.pointer (some ⟨w.heap.size, 0, none⟩)) (w.alloc (.cells z.cells t)) := by
    simp [Instr.alloc, zeroValue, typeInfo, hi, hiz, newVar, newRow]
  obtain ⟨F1, R1, h1⟩ := R.give' (w' := w.alloc (.cells z.cells t)) (.opt t (tagTs P tys cs)) (.pointer (some ⟨w.heap.size, 0, none⟩)) (fun b => b = w.heap.size) (Turns.alloc _ _ _) (fun b hb => by subst hb; simp)
    fun Zs Zx hs hx => .opt none t _ w.heap.size z.cells _ (fun _ _ => False) (heap_alloc_new w _) (by rw [tagTs_rep.1]; simpa using hl.symm)
      (fun i v hv => by
        obtain ⟨x, hx, he⟩ := tagTs_rep.2 i _ hv
        have hlt : i < z.cells.toList.length := by rw [hl]; exact (List.getElem?_eq_some_iff.1 hx).1
        have h1 := (hrep w (fun _ => False) (fun _ => False) none i _ _ hx (List.getElem?_eq_getElem hlt)).2
        rcases he with he | ⟨ty, he⟩
        · exact h1 v he.symm
        · obtain ⟨u, rfl, rfl⟩ := tag_p he.symm
          rw [V.tag_one]; exact h1 u rfl)
      (fun i y c hy hc => by
        obtain ⟨x, hx, he⟩ := tagTs_rep.2 i _ hy
        rcases he with rfl | ⟨ty, rfl⟩
        · exact (hrep _ _ _ _ i _ c hx (by simpa using hc)).1
        · exact (hrep _ _ _ _ i x c hx (by simpa using hc)).1.tag ty) (fun x => by simp) (by simp) (fun _ _ _ _ _ h => h.elim)
  obtain ⟨F2, R2, h2⟩ := R1.putD h
  exact ⟨_, _, F2, hr, R2, h1.trans h2⟩
def boxT (t : TypeId) : T → T
  | .p (.agg vs) => .opt t (vs.map .p)
  | .agg ts => .opt t ts
  | y => .opt t [y]
theorem TRep.up {Zs Zx : Nat → Prop} {me : Option Nat} {x : T} {c : Value} {G : Nat → Prop} (h : TRep P w Zs Zx none x c G) : TRep P w Zs Zx me x c G := h.anyMe (by rintro rfl; cases h)
theorem opt_one {Zs Zx : Nat → Prop} {y : T} {c : Value} {G : Nat → Prop} {b : Nat} {t : TypeId} (hT : TRep P w Zs Zx none y c G) (h1 : ∀ v, y = .p v → v.one = true) (hb : w.heap[b]? = some (.cells #[c] t (0, 0))) (hn : ¬ G b) :
    TRep P w Zs Zx none (.opt t [y]) (.pointer (some ⟨b, 0, none⟩)) (fun x => x = b ∨ G x) :=
  .opt none t [y] b #[c] _ (fun _ => G) hb rfl (fun i v hv => by cases i <;> simp at hv; exact h1 v hv)
    (fun i x c' hx hc => by cases i <;> simp at hx hc; subst hx; subst hc; exact hT.up)
    (fun x => ⟨fun h => h.imp id fun h => ⟨0, by simp, h⟩, fun h => h.imp id fun ⟨_, _, h⟩ => h⟩) (fun _ _ => hn) (fun i j x hi hj _ _ => by simp at hi hj; omega)
theorem box_rep {Zs Zx : Nat → Prop} {y : T} {c : Value} {G : Nat → Prop} {b : Nat} {t : TypeId} (hT : TRep P w Zs Zx none y c G) (hd : y ≠ .dead) (hb : w.heap[b]? = some (.cells c.cells t (0, 0))) (hn : ¬ G b) :
    TRep P w Zs Zx none (boxT t y) (.pointer (some ⟨b, 0, none⟩)) (fun x => x = b ∨ G x) := by
  cases y with
  | dead => exact absurd rfl hd
  | self => cases hT
  | p v =>
    have hT' := hT
    cases hT with
    | p me v c F hp hF =>
      cases hp with
      | agg cs vs hl h1 h =>
        simp only [Value.cells] at hb
        refine .opt none t _ b vs.toArray _ (fun _ _ => False) hb (by simpa using hl) (fun i u hu => ?_) (fun i x c' hx hc => ?_) (fun x => ⟨fun h => .inl (h.elim id fun h => absurd h (hF x)), fun h => .inl (h.elim id fun ⟨_, _, h⟩ => h.elim)⟩) (by simp) (fun _ _ _ _ _ h => h.elim)
        · simp only [List.getElem?_map, Option.map_eq_some_iff] at hu
          obtain ⟨u', hu, he⟩ := hu
          cases he; exact h1 i u hu
        · simp only [List.getElem?_map, Option.map_eq_some_iff] at hx
          obtain ⟨u, hu, rfl⟩ := hx
          exact .p _ u c' _ (h i u c' hu (by simpa using hc)) fun _ => id
      | _ => exact opt_one hT' (fun v hv => by cases hv; rfl) hb hn
  | agg ts =>
    cases hT with
    | agg me cs vs F G' hl h1 h hF hdj =>
      simp only [Value.cells] at hb
      exact .opt none t ts b vs.toArray _ G' hb (by simpa using hl) h1 (fun i x c' hx hc => (h i x c' hx (by simpa using hc)).up) (fun x => by rw [hF x]) (fun i hi hg => hn ((hF b).2 ⟨i, hi, hg⟩)) hdj
  | own ty es =>
    have hT' := hT
    cases hT with
    | own0 => exact opt_one hT' (by simp) hb hn
    | own => exact opt_one hT' (by simp) hb hn
  | opt ty cs => have hT' := hT; cases hT; exact opt_one hT' (by simp) hb hn
  | tup cs => have hT' := hT; cases hT; exact opt_one hT' (by simp) hb hn
  | ifc u x => have hT' := hT; cases hT; exact opt_one hT' (by simp) hb hn
  | clo f x => have hT' := hT; cases hT; exact opt_one hT' (by simp) hb hn
theorem tk_dead {x : Operand} {y : T} {sl' : List S} (h : tk P sl x = some (y, sl')) : y ≠ .dead := by
  unfold tk at h
  split at h
  · split at h
    · rename_i z hz
      cases h
      rintro rfl
      unfold konst kT at hz
      repeat' (split at hz)
      all_goals simp [Option.map_eq_some_iff] at hz
    · cases h
  · cases h; simp
  · cases h
  · split at h
    · cases h; simp
    · cases h
    · cases h
    · rename_i hd _ _
      cases h; rintro rfl; exact hd rfl
    · split at h
      · split at h
        · cases h; simp
        · cases h
      · cases h
    · repeat' split at h
      all_goals first | (cases h; simp; done) | cases h
    · cases h
theorem tag_dead {t : TypeId} {x : T} (h : x.tag P t = .dead) : x = .dead := by
  cases x <;> simp only [T.tag] at h
  · cases h
  · repeat' split at h
    all_goals cases h
  all_goals first | rfl | cases h
theorem tkT_dead {t : TypeId} {x : Operand} {y : T} {sl' : List S} (h : tkT P t sl x = some (y, sl')) : y ≠ .dead := by
  unfold tkT at h
  split at h
  · rename_i z sl1 hz
    cases h
    exact fun e => tk_dead hz (tag_dead e)
  · cases h
theorem op_box (R : Sit P w X sl F a gv) {t : TypeId} {x : Operand} (hx : OkT a x) {y : T} {sl1 sl' : List S} {dst : Option Nat} (h1 : tkT P t sl x = some (y, sl1)) (h : putD sl1 dst (.t (boxT t y)) = some sl') :
    Op1 P w X F (a.tmps.toList ++ gv) sl' dst (Instr.box t (a.eval x)) := by
  obtain ⟨F1, R1, t1⟩ := tkT_run R hx h1
  have hr : (Instr.box t (a.eval x)).run P w = .ok (.pointer (some ⟨w.heap.size, 0, none⟩)) (w.alloc (.cells (a.eval x).cells t)) := by
    simp [Instr.box, newVar, newRow]
  have hn : ¬ F1 sl1.length w.heap.size := fun hh => by have := R1.rel.lt _ _ hh; omega
  have tw : Turns w (w.alloc (.cells (a.eval x).cells t)) (F1 sl1.length) := Turns.alloc _ _ _
  obtain ⟨F2, R2, t2⟩ := R1.swap (w' := w.alloc (.cells (a.eval x).cells t)) (boxT t y) (.pointer (some ⟨w.heap.size, 0, none⟩)) (fun b => b = w.heap.size ∨ F1 sl1.length b) tw
    (fun b hb => hb.elim (fun e => .inr (by omega)) .inl) (fun b hb => hb.elim (fun e => by subst e; simp) (fun hb => by have := R1.rel.lt _ b hb; simp; omega))
    (fun Zs Zx hs hx _ => box_rep (R1.hand.mono zs_zx hs hx fun b hb => by
      show (w.heap.push _)[b]? = _
      rw [Array.getElem?_push, if_neg]
      rcases hb with hb | hb
      · have := R1.rel.lt _ b hb; omega
      · have := hb.1; omega) (tkT_dead h1) (heap_alloc_new w _) hn)
  obtain ⟨F3, R3, t3⟩ := R2.putD h
  exact ⟨_, _, F3, hr, R3, (t1.trans t2).trans t3⟩
theorem op_iface (R : Sit P w X sl F a gv) {t : TypeId} {x : Operand} (hx : OkT a x) {v : V} {sl1 sl' : List S} {dst : Option Nat} (hc : concrete P t = true) (h1 : tkVT P t sl x = some (v, sl1)) (h : putD sl1 dst (.v (.ifc t v)) = some sl') :
    Op1 P w X F (a.tmps.toList ++ gv) sl' dst (Instr.makeInterface t (a.eval x)) := by
  obtain ⟨F1, R1, t1, hp⟩ := tkVT_run R hx h1
  obtain ⟨F2, R2, t2⟩ := give_pure R1 (.ifc t v _ (hp.mono (fun _ h => h) (fun _ h => h) zs_zx fun _ _ => rfl)) h
  refine ⟨.iface t (a.eval x), w, F2, ?_, R2, t1.trans t2⟩
  unfold concrete at hc
  split at hc
  · cases hc
  · rename_i d hne hd
    simp only [Instr.makeInterface, Sem.run_bind, Go.run_underlying hd, Result.andThen_ok]
    cases d <;> first | rfl | exact absurd hd (hne _)
  · cases hc
theorem run_iface {t : TypeId} (hc : concrete P t = true) (c : Value) : (Instr.makeInterface t c).run P w = .ok (.iface t c) w := by
  unfold concrete at hc
  split at hc
  · cases hc
  · rename_i d hne hd
    simp only [Instr.makeInterface, Sem.run_bind, Go.run_underlying hd, Result.andThen_ok]
    cases d <;> first | rfl | exact absurd hd (hne _)
  · cases hc
theorem op_ifaceO (R : Sit P w X sl F a gv) {t ty : TypeId} {cs : List T} {x : Operand} (hx : OkT a x) {sl1 sl' : List S} {dst : Option Nat} (hc : concrete P t = true) (h1 : tk P sl x = some (.opt ty cs, sl1)) (h : putD sl1 dst (.t (.ifc t (.opt ty cs))) = some sl') :
    Op1 P w X F (a.tmps.toList ++ gv) sl' dst (Instr.makeInterface t (a.eval x)) := by
  obtain ⟨F1, R1, t1⟩ := tk_run R hx h1
  obtain ⟨F2, R2, t2⟩ := R1.swap (.ifc t (.opt ty cs)) (.iface t (a.eval x)) (F1 sl1.length) (Turns.refl _ _) (fun b hb => .inl hb) (fun b hb => R1.rel.lt _ b hb) fun Zs Zx hs hx _ => .ifc _ _ _ _ _ (R1.hand.mono zs_zx hs hx fun _ _ => rfl)
  obtain ⟨F3, R3, t3⟩ := R2.putD h
  exact ⟨.iface t (a.eval x), w, F3, run_iface hc _, R3, (t1.trans t2).trans t3⟩
theorem op_buildO (R : Sit P w X sl F a gv) {t u : TypeId} {y : T} {x : Operand} (hx : OkT a x) {sl1 sl' : List S} {dst : Option Nat} (h1 : tk P sl x = some (.ifc u y, sl1)) (h2 : oneF P t = true) (h : putD sl1 dst (.t (.agg [.ifc u y])) = some sl') :
    Op1 P w X F (a.tmps.toList ++ gv) sl' dst (Instr.build t #[(0, a.eval x)]) := by
  obtain ⟨F1, R1, t1⟩ := tk_run R hx h1
  have hh := R1.hand
  obtain ⟨c, hc⟩ : ∃ c, a.eval x = .iface u c := by
    generalize a.eval x = v at hh
    cases hh with
    | ifc me t x c F h => exact ⟨c, rfl⟩
  obtain ⟨F2, R2, t2⟩ := R1.swap (.agg [.ifc u y]) (.agg #[a.eval x]) (F1 sl1.length) (Turns.refl _ _) (fun b hb => .inl hb) (fun b hb => R1.rel.lt _ b hb) fun Zs Zx hs hx' _ =>
    .agg none [.ifc u y] [a.eval x] _ (fun _ => F1 sl1.length) rfl (fun i v hv => by cases i <;> simp at hv) (fun i t' c' e1 e2 => by
      cases i with
      | zero => cases e1; cases e2; exact R1.hand.mono zs_zx hs hx' fun _ _ => rfl
      | succ i => simp at e1) (fun b => ⟨fun hb => ⟨0, by simp, hb⟩, fun ⟨_, _, hb⟩ => hb⟩) (fun i j b hi hj _ _ => by simp at hi hj; omega)
  obtain ⟨F3, R3, t3⟩ := R2.putD h
  refine ⟨.agg #[a.eval x], w, F3, ?_, R3, (t1.trans t2).trans t3⟩
  unfold oneF at h2
  split at h2
  · rename_i fs z hu hz
    simp only [Bool.and_eq_true, beq_iff_eq] at h2
    obtain ⟨⟨h3, h4⟩, h5⟩ := h2
    split at h4
    · rename_i f hf
      simp only [Bool.and_eq_true, beq_iff_eq] at h4
      obtain ⟨⟨h6, h7⟩, h8⟩ := h4
      obtain ⟨i, hi, hiz, _⟩ := zeroOf_info hz
      have hfs : fs.toList = [f] := by
        have : fs = #[f] := by
          apply Array.ext'
          refine List.ext_getElem? fun k => ?_
          cases k with
          | zero => simpa using hf
          | succ k => rw [List.getElem?_eq_none (by simp; omega), List.getElem?_eq_none (by simp)]
        rw [this]
      obtain ⟨zc, hzc⟩ : ∃ zc, z.cells = #[zc] := by
        obtain ⟨zc, hzc⟩ := List.length_eq_one_iff.1 (show z.cells.toList.length = 1 by simpa using h5)
        exact ⟨zc, Array.ext' (by simpa using hzc)⟩
      refine run_build w t _ _ ?_
      have hpl := places_list (P := P) [f] (fun g hg => by simp at hg; subst hg; exact h7)
      simp only [Program.built, hi, hu, hiz, hfs, hpl]
      rw [hc]
      have hzc' : Value.cells z = #[zc] := hzc
      simp [Instr.fill, h6, h8, hzc']
      simp [Value.cells]
    · cases h4
  · cases h2
theorem op_build0 {cv : List Value} (R : Rel P w X sl cv F) {t : TypeId} {z : Value} {fs : Array Field} {cs : List T} {dst : Option Nat} {sl' : List S} {tys : List TypeId} (hz : zeroOf P t = some z) (hu : P.underlying t = some (.struct fs)) (hk : kTs z.cells.toList = some cs)
    (hall : fs.all (fun f => (P.info? f.type).isSome) = true) (h : putD sl dst (.t (.agg (tagTs P tys cs))) = some sl') : Op1 P w X F cv sl' dst (Instr.build t #[]) := by
  obtain ⟨i, hi, hiz, _⟩ := zeroOf_info hz
  obtain ⟨hl, hrep⟩ := kTs_rep (P := P) hk
  have hr : (Instr.build t #[]).run P w = .ok (.agg z.cells) w := by
    refine run_build w t _ _ ?_
    have hpl := places_list (P := P) fs.toList (fun f hf => Array.all_eq_true'.1 hall f (Array.mem_toList_iff.1 hf))
    simp only [Program.built, hi, hu, hiz, hpl]
    rfl
  obtain ⟨F1, R1, h1⟩ := R.give' (w' := w) (.agg (tagTs P tys cs)) (.agg z.cells) (fun _ => False) (Turns.refl _ _) (fun _ h => h.elim)
    fun Zs Zx hs hx => by
      have := TRep.agg (P := P) (w := w) (Zs := Zs) (Zx := Zx) none (tagTs P tys cs) z.cells.toList (fun _ => False) (fun _ _ => False) (by rw [tagTs_rep.1]; exact hl.symm)
        (fun i v hv => by
          obtain ⟨x, hx, he⟩ := tagTs_rep.2 i _ hv
          have hlt : i < z.cells.toList.length := by rw [hl]; exact (List.getElem?_eq_some_iff.1 hx).1
          have h1 := (hrep w (fun _ => False) (fun _ => False) none i _ _ hx (List.getElem?_eq_getElem hlt)).2
          rcases he with he | ⟨ty, he⟩
          · exact h1 v he.symm
          · obtain ⟨u, rfl, rfl⟩ := tag_p he.symm
            rw [V.tag_one]; exact h1 u rfl)
        (fun i y c hy hc => by
          obtain ⟨x, hx, he⟩ := tagTs_rep.2 i _ hy
          rcases he with rfl | ⟨ty, rfl⟩
          · exact (hrep _ _ _ _ i _ c hx hc).1
          · exact (hrep _ _ _ _ i x c hx hc).1.tag ty) (fun x => by simp) (fun _ _ _ _ _ h => h.elim)
      simpa using this
  obtain ⟨F2, R2, h2⟩ := R1.putD h
  exact ⟨_, _, F2, hr, R2, h1.trans h2⟩
theorem Rel.noKill {cv : List Value} (R : Rel P w X sl cv F) {d : Nat} {o : S} (ho : sl[d]? = some o) (hf : o.flat = true) : killP ⟨d, []⟩ false sl = sl := by
  apply List.ext_getElem?
  intro i
  simp only [killP, List.getElem?_map]
  cases hs : sl[i]? with
  | none => rfl
  | some s0 =>
    have hlt : i < cv.length := by rw [← R.len]; exact (List.getElem?_eq_some_iff.1 hs).1
    have := R.noBorrow ho hf i s0 _ hs (List.getElem?_eq_getElem hlt)
    simp [kill_eq, this]
theorem Rel.part {cv : List Value} (R : Rel P w X sl cv F) {t i : Nat} {ts : List T} {y : T} {c : Value} (ht : sl[t]? = some (.t (.tup ts))) (hc : cv[t]? = some c) (hy : ts[i]? = some y) :
    ∃ vs cy F', c = .tuple vs ∧ vs[i]? = some cy ∧ HRel P w X (sl.set t (.t (.tup (ts.set i .dead)))) cv y cy F' ∧ To w F w F' := by
  obtain ⟨F1, R1, t1⟩ := R.giveDead
  obtain ⟨me, cz, G, hcz, hT, hsub, hGn, hput⟩ := R1.node2 (p := ⟨t, []⟩) (slAt_nil ht)
  rw [cvAt_nil hc] at hcz; cases hcz
  have hlt : i < ts.length := (List.getElem?_eq_some_iff.1 hy).1
  cases hT with
  | tup me cs vs F G' hl h hF hd =>
    obtain ⟨cy, hcy⟩ : ∃ cy, vs[i]? = some cy := ⟨vs[i], List.getElem?_eq_getElem (by omega)⟩
    refine ⟨vs.toArray, cy, ?_⟩
    have hpn : putN sl ⟨t, []⟩ (.tup (ts.set i .dead)) false = some (sl.set t (.t (.tup (ts.set i .dead)))) := by
      simp only [putN, ht, T.put]
      rw [R.noKill ht rfl]
    obtain ⟨F2, R2, t2⟩ := hput w (.tup (ts.set i .dead)) y cy (fun b => ∃ j, j < ts.length ∧ j ≠ i ∧ G' j b) (G' i) false _ hpn (Turns.refl _ _)
      (fun b ⟨j, hj, _, hb⟩ => .inl (.inl ((hF b).2 ⟨j, hj, hb⟩))) (fun b hb => .inl (.inl ((hF b).2 ⟨i, hlt, hb⟩)))
      (fun b hb => R1.rel.lt _ b (hsub b (hb.elim (fun ⟨j, hj, _, hb⟩ => (hF b).2 ⟨j, hj, hb⟩) fun hb => (hF b).2 ⟨i, hlt, hb⟩)))
      (fun b ⟨j, hj, hne, hb⟩ hi => hne (hd j i b hj hlt hb hi))
      (fun Zs Zx hs hx hf => ⟨.tup me _ vs _ (fun j b => j ≠ i ∧ G' j b) (by simpa using hl) (fun j x c' hx' hc' => by
          by_cases hj : j = i
          · subst hj
            rw [List.getElem?_set_self hlt] at hx'
            cases hx'
            exact .dead _ _ _ fun b hb => hb.1 rfl
          · rw [List.getElem?_set_ne (Ne.symm hj)] at hx'
            exact ((h j x c' hx' hc').mono zs_zx hs hx fun _ _ => rfl).iff fun b => ⟨fun hb => ⟨hj, hb⟩, fun hb => hb.2⟩)
          (fun x => ⟨fun ⟨j, hj, hne, hb⟩ => ⟨j, by simpa using hj, hne, hb⟩, fun ⟨j, hj, hne, hb⟩ => ⟨j, by simpa using hj, hne, hb⟩⟩) (fun j k x hj hk hj' hk' => hd j k x (by simpa using hj) (by simpa using hk) hj'.2 hk'.2),
        (h i y cy hy hcy).mono zs_zx hs hx fun _ _ => rfl⟩) (by simp) (by simp)
    exact ⟨F2, rfl, by simpa using hcy, R2, t1.trans t2⟩
theorem op_extract (R : Sit P w X sl F a gv) {t i : Nat} (hx : OkT a (.tmp t)) {ts : List T} (ht : sl[t]? = some (.t (.tup ts))) {y : T} (hy : ts[i]? = some y) {sl' : List S} {dst : Option Nat}
    (h : (match y with | .p v => putD sl dst (.v v) | .dead => none | y => putD (sl.set t (.t (.tup (ts.set i .dead)))) dst (.t y)) = some sl') :
    Op1 P w X F (a.tmps.toList ++ gv) sl' dst (Instr.extract (a.eval (.tmp t)) i) := by
  have hc := eval_tmp (hx t rfl) gv
  obtain ⟨vs, cy, F1, hv, hcy, R1, t1⟩ := R.rel.part ht hc hy
  have hr : (Instr.extract (a.eval (.tmp t)) i).run P w = .ok cy w := by rw [hv]; simp [Instr.extract, hcy]
  have other : putD (sl.set t (.t (.tup (ts.set i .dead)))) dst (.t y) = some sl' → Op1 P w X F (a.tmps.toList ++ gv) sl' dst (Instr.extract (a.eval (.tmp t)) i) := fun h =>
    let ⟨F2, R2, t2⟩ := R1.putD h; ⟨cy, w, F2, hr, R2, t1.trans t2⟩
  cases y with
  | p v =>
    have h0 : TRep P w (zs w X F) (zx w F) none (.tup ts) (a.eval (.tmp t)) (F t) := R.rel.slot t _ _ ht hc
    rw [hv] at h0
    generalize hvs : Value.tuple vs = cc at h0
    cases h0 with
    | tup me cs vs' F G hl hh hF hd =>
      cases hvs
      have := hh i _ cy hy (by simpa using hcy)
      cases this with
      | p me v c F hp hF =>
        obtain ⟨F2, R2, t2⟩ := give_pure R.rel hp h
        exact ⟨cy, w, F2, hr, R2, t2⟩
  | dead => cases h
  | _ => exact other h
theorem mid_get {α : Type} {A B : List α} {j : Nat} (h : j + B.length ≤ A.length) (k : Nat) : (A.take j ++ B ++ A.drop (j + B.length))[k]? = if k < j then A[k]? else if k < j + B.length then B[k - j]? else A[k]? := by
  by_cases h1 : k < j
  · rw [if_pos h1, List.append_assoc, List.getElem?_append_left (by simp; omega), List.getElem?_take, if_pos h1]
  · rw [if_neg h1]
    by_cases h2 : k < j + B.length
    · rw [if_pos h2, List.getElem?_append_left (by simp; omega), List.getElem?_append_right (by simp; omega)]
      simp; congr 1; omega
    · rw [if_neg h2, List.getElem?_append_right (by simp; omega), List.getElem?_drop]
      congr 1; simp; omega
theorem mid_len {α : Type} {A B : List α} {j : Nat} (h : j + B.length ≤ A.length) : (A.take j ++ B ++ A.drop (j + B.length)).length = A.length := by simp; omega
theorem freezeCells_get : ∀ {ts : List T} {l : List V}, freezeCells P ts = some l → ts.length = l.length ∧ ∀ (i : Nat) (v : V), l[i]? = some v → ∃ x, ts[i]? = some x ∧ (x = .p v ∨ ∃ ty es, x = .own ty es ∧ v = .sl false false (P.cellsOf ty) es)
  | [], l, h => by simp only [freezeCells, Option.some.injEq] at h; subst h; simp
  | x :: r, l, h => by
    have key : ∀ {u : V} {l' : List V}, freezeCells P r = some l' → (x = .p u ∨ ∃ ty es, x = .own ty es ∧ u = .sl false false (P.cellsOf ty) es) → l = u :: l' →
        (x :: r).length = l.length ∧ ∀ (i : Nat) (v : V), l[i]? = some v → ∃ y, (x :: r)[i]? = some y ∧ (y = .p v ∨ ∃ ty es, y = .own ty es ∧ v = .sl false false (P.cellsOf ty) es) := by
      intro u l' h1 h2 h3
      subst h3
      obtain ⟨h4, h5⟩ := freezeCells_get h1
      refine ⟨by simp [h4], fun i v hv => ?_⟩
      cases i with
      | zero => simp at hv; subst hv; exact ⟨x, by simp, h2⟩
      | succ i => simp at hv; simpa using h5 i v hv
    cases x with
    | p v =>
      simp only [freezeCells] at h
      split at h
      · rename_i l' h1; cases h; exact key h1 (.inl rfl) rfl
      · cases h
    | own ty es =>
      simp only [freezeCells] at h
      split at h
      · rename_i l' h1; cases h; exact key h1 (.inr ⟨ty, es, rfl, rfl⟩) rfl
      · cases h
    | _ => simp [freezeCells] at h
theorem opt_mid {w' : World} {Zs Zx Zs' Zx' : Nat → Prop} {me : Option Nat} {ty : TypeId} {cs ts : List T} {b j : Nat} {vs : Array Value} {G : Nat → Nat → Prop}
    (hw : w'.heap[b]? = some (.cells vs ty (0, 0))) (hl : cs.length = vs.size) (h1 : ∀ (i : Nat) (v : V), cs[i]? = some (.p v) → v.one = true)
    (h : ∀ (i : Nat) (t : T) (c : Value), cs[i]? = some t → vs[i]? = some c → ¬ (j ≤ i ∧ i < j + ts.length) → TRep P w' Zs' Zx' (some b) t c (G i))
    (hb : ∀ i, i < cs.length → ¬ G i b) (hd : ∀ i k x, i < cs.length → k < cs.length → G i x → G k x → i = k)
    (hj : j + ts.length ≤ cs.length) (ht1 : ∀ (i : Nat) (v : V), ts[i]? = some (.p v) → v.one = true) {Gt : Nat → Nat → Prop}
    (ht : ∀ (i : Nat) (t : T) (c : Value), ts[i]? = some t → vs[j + i]? = some c → TRep P w' Zs' Zx' (some b) t c (Gt i))
    (htb : ∀ i, i < ts.length → ¬ Gt i b) (htd : ∀ i k x, i < ts.length → k < ts.length → Gt i x → Gt k x → i = k) (hx : ∀ i k x, i < cs.length → ¬ (j ≤ i ∧ i < j + ts.length) → k < ts.length → G i x → Gt k x → False) :
    TRep P w' Zs' Zx' me (.opt ty (cs.take j ++ ts ++ cs.drop (j + ts.length))) (.pointer (some ⟨b, 0, none⟩))
      (fun x => x = b ∨ (∃ i, i < cs.length ∧ ¬ (j ≤ i ∧ i < j + ts.length) ∧ G i x) ∨ ∃ i, i < ts.length ∧ Gt i x) := by
  have hlen := mid_len hj
  refine .opt me ty _ b vs _ (fun k => if j ≤ k ∧ k < j + ts.length then Gt (k - j) else G k) hw (by rw [hlen]; exact hl) (fun i v hv => ?_) (fun i t c hi hc => ?_) (fun x => ?_) (fun i hi => ?_) (fun i k x hi hk hgi hgk => ?_)
  · rw [mid_get hj] at hv
    split at hv
    · exact h1 i v hv
    · split at hv
      · exact ht1 _ v hv
      · exact h1 i v hv
  · rw [mid_get hj] at hi
    split at hi
    · rw [if_neg (by omega)]; exact h i t c hi hc (by omega)
    · split at hi
      · rw [if_pos (by omega)]; exact ht _ t c hi (by rw [show j + (i - j) = i by omega]; exact hc)
      · rw [if_neg (by omega)]; exact h i t c hi hc (by omega)
  · rw [hlen]
    constructor
    · rintro (rfl | ⟨i, hi, hne, hg⟩ | ⟨i, hi, hg⟩)
      · exact .inl rfl
      · exact .inr ⟨i, hi, by rw [if_neg hne]; exact hg⟩
      · exact .inr ⟨j + i, by omega, by rw [if_pos (by omega), show j + i - j = i by omega]; exact hg⟩
    · rintro (rfl | ⟨i, hi, hg⟩)
      · exact .inl rfl
      · by_cases hne : j ≤ i ∧ i < j + ts.length
        · rw [if_pos hne] at hg; exact .inr (.inr ⟨i - j, by omega, hg⟩)
        · rw [if_neg hne] at hg; exact .inr (.inl ⟨i, hi, hne, hg⟩)
  · rw [hlen] at hi
    by_cases hne : j ≤ i ∧ i < j + ts.length
    · rw [if_pos hne]; exact htb _ (by omega)
    · rw [if_neg hne]; exact hb i hi
  · rw [hlen] at hi hk
    by_cases hni : j ≤ i ∧ i < j + ts.length
    · rw [if_pos hni] at hgi
      by_cases hnk : j ≤ k ∧ k < j + ts.length
      · rw [if_pos hnk] at hgk
        have := htd _ _ x (by omega) (by omega) hgi hgk; omega
      · rw [if_neg hnk] at hgk
        exact (hx k _ x hk hnk (by omega) hgk hgi).elim
    · rw [if_neg hni] at hgi
      by_cases hnk : j ≤ k ∧ k < j + ts.length
      · rw [if_pos hnk] at hgk
        exact (hx i _ x hi hni (by omega) hgi hgk).elim
      · rw [if_neg hnk] at hgk
        exact hd i k x hi hk hgi hgk
end
end Go.Proofs.Ytffofdfikmpanaa.A
namespace Go.Proofs.Ytffofdfikmpanaa.A
set_option linter.unusedVariables false
set_option linter.unusedSimpArgs false
section
variable {P : Program} {X : Nat → Prop} {w : World} {sl : List S} {F : Nat → Nat → Prop} {a : Act} {gv : List Value}
theorem opt_ptr {cv : List Value} {p : Pl} {i j : Nat} {c : Value} {ty : TypeId} {cs : List T} (hv : Val P w X F sl cv (.bpt p i j) c) (hz : slAt sl p = some (.opt ty cs)) :
    ∃ b, cvAt w cv p = some (.pointer (some ⟨b, 0, none⟩)) ∧ i = 0 ∧ c = .pointer (some ⟨b, j, none⟩) := by
  obtain ⟨q, z, cz, hq, hz', hcz, hb⟩ := hv
  cases hq
  rw [hz] at hz'; cases hz'
  rcases hb with ⟨_, _, _, _, _, _, he, _⟩ | ⟨ty', cs', b, he, rfl, rfl, rfl⟩
  · cases he
  · exact ⟨b, hcz, rfl, rfl⟩
theorem op_loadMove (R : Sit P w X sl F a gv) {t : TypeId} {x : Operand} (hx : OkT a x) {p : Pl} {i j : Nat} {ty : TypeId} {cs : List T} {sl1 sl' : List S} {dst : Option Nat}
    (hrd : rd sl x = some (.bpt p i j)) (hz : slAt sl p = some (.opt ty cs)) (hagg : aggT P t = some true) (hle : j + P.cellsOf t ≤ cs.length) (hpos : 0 < P.cellsOf t)
    (hself : ((cs.drop j).take (P.cellsOf t)).any T.isSelf = false) (h1 : putN sl p (.opt ty (cs.take j ++ List.replicate (P.cellsOf t) .dead ++ cs.drop (j + P.cellsOf t))) true = some sl1)
    (h : putD sl1 dst (.t (.agg ((cs.drop j).take (P.cellsOf t)))) = some sl') : Op1 P w X F (a.tmps.toList ++ gv) sl' dst (Instr.loadAt t (a.eval x)) := by
  obtain ⟨b, hcz, _, hc⟩ := opt_ptr (rd_val R hx hrd) hz
  obtain ⟨F1, R1, t1⟩ := R.rel.giveDead
  obtain ⟨me, cz, G, hcz', hT, hsub, hGn, hput⟩ := R1.node2 hz
  rw [hcz] at hcz'; cases hcz'
  cases hT with
  | opt me ty cs b vs _ G' hw hl hone hrep hF hb hd =>
    have hlv : ((vs.toList.drop j).take (P.cellsOf t)).length = P.cellsOf t := by simp; omega
    have hcell : ∀ (k : Nat) (v : Value), ((vs.toList.drop j).take (P.cellsOf t))[k]? = some v → k < P.cellsOf t ∧ vs[j + k]? = some v := fun k v hk => by
      obtain ⟨h1, h2⟩ := drop_take_get hk
      exact ⟨h2, by simpa using h1⟩
    have hr : (Instr.loadAt t (a.eval x)).run P w = .ok (.agg ((vs.toList.drop j).take (P.cellsOf t)).toArray) w := by
      rw [hc]
      exact run_loadAt (run_loadVarN hagg hpos hlv fun k v hk => by rw [add_at, cell_row hw]; exact (hcell k v hk).2)
    have hml : j + (List.replicate (P.cellsOf t) T.dead).length ≤ cs.length := by simpa using hle
    obtain ⟨F2, R2, t2⟩ := hput w (.opt ty (cs.take j ++ List.replicate (P.cellsOf t) .dead ++ cs.drop (j + P.cellsOf t))) (.agg ((cs.drop j).take (P.cellsOf t))) (.agg ((vs.toList.drop j).take (P.cellsOf t)).toArray)
      (fun x => x = b ∨ (∃ i, i < cs.length ∧ ¬ (j ≤ i ∧ i < j + P.cellsOf t) ∧ G' i x)) (fun x => ∃ k, k < P.cellsOf t ∧ G' (j + k) x) true sl1 h1 (Turns.refl _ _)
      (fun x hx => .inl (.inl ((hF x).2 (hx.imp id fun ⟨i, hi, _, hg⟩ => ⟨i, hi, hg⟩)))) (fun x ⟨k, hk, hg⟩ => .inl (.inl ((hF x).2 (.inr ⟨j + k, by omega, hg⟩))))
      (fun x hx => R1.rel.lt _ x (hsub x ((hF x).2 (hx.elim (fun hx => hx.imp id fun ⟨i, hi, _, hg⟩ => ⟨i, hi, hg⟩) fun ⟨k, hk, hg⟩ => .inr ⟨j + k, by omega, hg⟩))))
      (fun x hx ⟨k, hk, hg⟩ => hx.elim (fun e => by subst e; exact hb _ (by omega) hg) fun ⟨i, hi, hne, hgi⟩ => by have := hd i (j + k) x hi (by omega) hgi hg; omega)
      (fun Zs Zx hs hx hf => ⟨by
        have := opt_mid (w' := w) (Zs := Zs) (Zx := Zx) (Zs' := Zs) (Zx' := Zx) (me := me) (ts := List.replicate (P.cellsOf t) .dead) (j := j) (G := G') (Gt := fun _ _ => False) hw hl hone
          (fun i y c hi hc _ => (hrep i y c hi hc).mono zs_zx hs hx fun _ _ => rfl) hb hd hml (fun i v hv => by simp [List.getElem?_replicate] at hv) (fun i y c hi _ => by
            have : y = .dead := (List.mem_replicate.1 (List.mem_of_getElem? hi)).2
            subst this; exact .dead _ _ _ fun _ => id) (by simp) (fun _ _ _ _ _ h => h.elim) (fun _ _ _ _ _ _ _ h => h)
        simp only [List.length_replicate] at this
        exact this.iff fun x => ⟨fun hx => hx.imp id fun hx => hx.elim id fun ⟨_, _, h⟩ => h.elim, fun hx => hx.imp id .inl⟩,
        .agg none _ _ _ (fun k => G' (j + k)) (by rw [hlv]; simp; omega) (fun k v hk => hone _ v (drop_take_get hk).1)
          (fun k y c hk hc => ((hrep (j + k) y c (drop_take_get hk).1 (hcell k c hc).2).mono zs_zx hs hx fun _ _ => rfl).anyMe (by
            rintro rfl
            have := List.any_eq_false.1 hself _ (List.mem_of_getElem? hk)
            simp [T.isSelf] at this))
          (fun x => ⟨fun ⟨k, hk, hg⟩ => ⟨k, by simp; omega, hg⟩, fun ⟨k, hk, hg⟩ => ⟨k, by simp at hk; omega, hg⟩⟩)
          (fun k l x hk hl hgk hgl => by simp at hk hl; have := hd (j + k) (j + l) x (by omega) (by omega) hgk hgl; omega)⟩) (by simp) (fun _ => by simp [T.like]; omega)
    obtain ⟨F3, R3, t3⟩ := R2.putD h
    exact ⟨_, _, F3, hr, R3, (t1.trans t2).trans t3⟩
theorem op_loadFreeze (R : Sit P w X sl F a gv) {t : TypeId} {x : Operand} (hx : OkT a x) {p : Pl} {i j : Nat} {ty : TypeId} {cs : List T} {l : List V} {sl1 sl' : List S} {dst : Option Nat}
    (hrd : rd sl x = some (.bpt p i j)) (hz : slAt sl p = some (.opt ty cs)) (hagg : aggT P t = some true) (hle : j + P.cellsOf t ≤ cs.length) (hpos : 0 < P.cellsOf t)
    (hfr : freezeCells P ((cs.drop j).take (P.cellsOf t)) = some l) (h1 : putN sl p (.opt ty (cs.take j ++ l.map .p ++ cs.drop (j + P.cellsOf t))) true = some sl1)
    (h : putD sl1 dst (.v (.agg l)) = some sl') : Op1 P w X F (a.tmps.toList ++ gv) sl' dst (Instr.loadAt t (a.eval x)) := by
  obtain ⟨b, hcz, _, hc⟩ := opt_ptr (rd_val R hx hrd) hz
  obtain ⟨F1, R1, t1⟩ := R.rel.giveDead
  obtain ⟨me, cz, G, hcz', hT, hsub, hGn, hput⟩ := R1.node2 hz
  rw [hcz] at hcz'; cases hcz'
  obtain ⟨hfl, hfg⟩ := freezeCells_get hfr
  have hll : l.length = P.cellsOf t := by rw [← hfl]; simp; omega
  cases hT with
  | opt me ty cs b vs _ G' hw hl hone hrep hF hb hd =>
    have hlv : ((vs.toList.drop j).take (P.cellsOf t)).length = P.cellsOf t := by simp; omega
    have hcell : ∀ (k : Nat) (v : Value), ((vs.toList.drop j).take (P.cellsOf t))[k]? = some v → k < P.cellsOf t ∧ vs[j + k]? = some v := fun k v hk => by
      obtain ⟨h1, h2⟩ := drop_take_get hk
      exact ⟨h2, by simpa using h1⟩
    have hr : (Instr.loadAt t (a.eval x)).run P w = .ok (.agg ((vs.toList.drop j).take (P.cellsOf t)).toArray) w := by
      rw [hc]
      exact run_loadAt (run_loadVarN hagg hpos hlv fun k v hk => by rw [add_at, cell_row hw]; exact (hcell k v hk).2)
    have hml : j + (l.map T.p).length ≤ cs.length := by simp; omega
    -- each cell that is read, as a value
    have hval : ∀ Zs Zx, (∀ b, zs w X F1 b → Zs b) → (∀ b, zx w F1 b → Zx b) → (∀ y, G y ∨ F1 sl.length y → ¬ (y = b ∨ (∃ i, i < cs.length ∧ ¬ (j ≤ i ∧ i < j + P.cellsOf t) ∧ G' i y)) → ¬ False → Zs y ∧ Zx y) →
        ∀ (k : Nat) (v : V) (c : Value), l[k]? = some v → vs[j + k]? = some c → v.one = true ∧ PRep w Zs Zx v c := by
      intro Zs Zx hs hx hf k v c hk hc
      obtain ⟨y, hy, he⟩ := hfg k v hk
      have hkl : k < P.cellsOf t := by rw [← hll]; exact (List.getElem?_eq_some_iff.1 hk).1
      have hT := hrep (j + k) y c (drop_take_get hy).1 hc
      rcases he with rfl | ⟨ty', es, rfl, rfl⟩
      · refine ⟨hone _ v (drop_take_get hy).1, ?_⟩
        cases hT with
        | p me v c F hp hF => exact hp.mono zs_zx hs hx fun _ _ => rfl
      · exact ⟨rfl, own_all hT (fun y hy => (hf y (.inl ((hF y).2 (.inr ⟨j + k, by omega, hy⟩))) (fun hh => hh.elim (fun e => by subst e; exact hb _ (by omega) hy) fun ⟨i, hi, hne, hgi⟩ => by
          have := hd i (j + k) y hi (by omega) hgi hy; omega) id).1) hs fun _ _ => rfl⟩
    obtain ⟨F2, R2, t2⟩ := hput w (.opt ty (cs.take j ++ l.map .p ++ cs.drop (j + P.cellsOf t))) (.p (.agg l)) (.agg ((vs.toList.drop j).take (P.cellsOf t)).toArray)
      (fun x => x = b ∨ (∃ i, i < cs.length ∧ ¬ (j ≤ i ∧ i < j + P.cellsOf t) ∧ G' i x)) (fun x => False) true sl1 h1 (Turns.refl _ _)
      (fun x hx => .inl (.inl ((hF x).2 (hx.imp id fun ⟨i, hi, _, hg⟩ => ⟨i, hi, hg⟩)))) (fun x hx => hx.elim)
      (fun x hx => R1.rel.lt _ x (hsub x ((hF x).2 (hx.elim (fun hx => hx.imp id fun ⟨i, hi, _, hg⟩ => ⟨i, hi, hg⟩) False.elim))))
      (fun x hx => id)
      (fun Zs Zx hs hx hf => ⟨by
        have := opt_mid (w' := w) (Zs := Zs) (Zx := Zx) (Zs' := Zs) (Zx' := Zx) (me := me) (ts := l.map .p) (j := j) (G := G') (Gt := fun _ _ => False) hw hl hone
          (fun i y c hi hc _ => (hrep i y c hi hc).mono zs_zx hs hx fun _ _ => rfl) hb hd hml (fun i v hv => by
            simp only [List.getElem?_map, Option.map_eq_some_iff] at hv
            obtain ⟨u, hu, he⟩ := hv
            cases he
            have hlt : i < P.cellsOf t := by rw [← hll]; exact (List.getElem?_eq_some_iff.1 hu).1
            exact (hval Zs Zx hs hx hf i _ _ hu (Array.getElem?_eq_getElem (show j + i < vs.size by omega))).1) (fun i y c hi hc => by
            simp only [List.getElem?_map, Option.map_eq_some_iff] at hi
            obtain ⟨u, hu, rfl⟩ := hi
            exact .p _ u c _ (hval Zs Zx hs hx hf i u c hu hc).2 fun _ => id) (by simp) (fun _ _ _ _ _ h => h.elim) (fun _ _ _ _ _ _ _ h => h)
        simp only [List.length_map, hll] at this
        exact this.iff fun x => ⟨fun hx => hx.imp id fun hx => hx.elim id fun ⟨_, _, h⟩ => h.elim, fun hx => hx.imp id .inl⟩,
        .p none _ _ _ (.agg l _ (by rw [hlv, hll]) (fun k v hk => by
          have hlt : k < P.cellsOf t := by rw [← hll]; exact (List.getElem?_eq_some_iff.1 hk).1
          exact (hval Zs Zx hs hx hf k v _ hk (Array.getElem?_eq_getElem (show j + k < vs.size by omega))).1)
          fun k v c hk hc => (hval Zs Zx hs hx hf k v c hk (hcell k c hc).2).2) fun _ => id⟩) (by simp) (fun _ => by simp [T.like]; omega)
    obtain ⟨F3, R3, t3⟩ := R2.putD h
    exact ⟨_, _, F3, hr, R3, (t1.trans t2).trans t3⟩
end
end Go.Proofs.Ytffofdfikmpanaa.A
namespace Go.Proofs.Ytffofdfikmpanaa.A
set_option linter.unusedVariables false
set_option linter.unusedSimpArgs false
section
variable {P : Program} {X : Nat → Prop} {w : World} {sl : List S} {F : Nat → Nat → Prop} {a : Act} {gv : List Value}
theorem setCell_row {w : World} {b o : Nat} {cur : Array Value} {ty : TypeId} {fz : Nat × Nat} {v : Value} (h : w.heap[b]? = some (.cells cur ty fz)) : (w.setCell ⟨b, o, none⟩ v).heap[b]? = some (.cells (cur.setIfInBounds o v) ty fz) := by
  simp [World.setCell, Array.getElem?_modify, h]
theorem setCell_other {w : World} {b o k : Nat} {v : Value} (h : k ≠ b) : (w.setCell ⟨b, o, none⟩ v).heap[k]? = w.heap[k]? := by
  simp [World.setCell, Array.getElem?_modify, Ne.symm h]
theorem setCells_other {b k : Nat} (h : k ≠ b) : ∀ (vs : List Value) (o : Nat) (w : World), (w.setCells b o vs).heap[k]? = w.heap[k]?
  | [], _, _ => rfl
  | v :: vs, o, w => by rw [World.setCells, setCells_other h vs, setCell_other h]
theorem setCells_size (b : Nat) : ∀ (vs : List Value) (o : Nat) (w : World), (w.setCells b o vs).heap.size = w.heap.size
  | [], _, _ => rfl
  | v :: vs, o, w => by rw [World.setCells, setCells_size b vs]; simp
theorem setCells_rest (b : Nat) : ∀ (vs : List Value) (o : Nat) (w : World), (w.setCells b o vs).os = w.os ∧ (w.setCells b o vs).tape = w.tape ∧ (w.setCells b o vs).output = w.output
  | [], _, _ => ⟨rfl, rfl, rfl⟩
  | v :: vs, o, w => by rw [World.setCells]; exact setCells_rest b vs (o + 1) (w.setCell ⟨b, o, none⟩ v)
theorem setCells_row {b : Nat} {ty : TypeId} {fz : Nat × Nat} : ∀ (vs : List Value) (o : Nat) (w : World) (cur : Array Value), w.heap[b]? = some (.cells cur ty fz) → o + vs.length ≤ cur.size →
    ∃ cur', (w.setCells b o vs).heap[b]? = some (.cells cur' ty fz) ∧ cur'.toList = cur.toList.take o ++ vs ++ cur.toList.drop (o + vs.length)
  | [], o, w, cur, h, _ => ⟨cur, h, by simp⟩
  | v :: vs, o, w, cur, h, hl => by
    simp only [List.length_cons] at hl
    obtain ⟨cur', h1, h2⟩ := setCells_row vs (o + 1) (w.setCell ⟨b, o, none⟩ v) _ (setCell_row h) (by simp; omega)
    refine ⟨cur', h1, ?_⟩
    have hlt : o < cur.toList.length := by simp; omega
    rw [h2]
    simp only [Array.toList_setIfInBounds, List.length_cons]
    rw [List.take_add_one, List.getElem?_set_self hlt, List.take_set_of_le (Nat.le_refl _), List.drop_set_of_lt (by omega)]
    simp [show o + 1 + vs.length = o + (vs.length + 1) by omega]
theorem setCells_turns (b : Nat) (vs : List Value) (o : Nat) (w : World) (O : Nat → Prop) (hO : O b) : Turns w (w.setCells b o vs) O :=
  ⟨(setCells_rest b vs o w).1, (setCells_rest b vs o w).2.1, (setCells_rest b vs o w).2.2, by rw [setCells_size]; exact Nat.le_refl _, fun k _ hk => setCells_other (fun e => hk (by rw [e]; exact hO)) vs o w⟩
theorem run_store' {t : TypeId} {b o : Nat} {c : Value} {cur : Array Value} {ty : TypeId} {fz : Nat × Nat} (hw : w.heap[b]? = some (.cells cur ty fz)) (hle : o + c.cells.toList.length ≤ cur.size)
    (hfz : ∀ k, o ≤ k → k < o + c.cells.toList.length → ¬ (fz.1 ≤ k ∧ k < fz.2)) (h1 : ∀ v ∈ c.cells.toList, v.oneCell' = true) (hs : c.cells.toList.length = P.cellsOf t) (hp : 0 < P.cellsOf t) :
    (Instr.storeAt t (.pointer (some ⟨b, o, none⟩)) c).run P w = .ok () (w.setCells b o c.cells.toList) := by
  have hst := run_storeCells_cells (P := P) b o c.cells.toList 0 w (fun j hj => by
      rw [Nat.add_zero, cell_row hw, Array.getElem?_eq_getElem (by omega)]; rfl) (fun j hj => by
      obtain ⟨lo, hi⟩ := fz
      have := hfz (o + j) (by omega) (by omega)
      simp only [World.frozen?, hw, Nat.add_zero]
      rw [Bool.and_eq_false_iff]
      simp only [decide_eq_false_iff_not]
      rcases Classical.em (lo ≤ o + j) with h | h
      · exact .inr fun h2 => this ⟨h, h2⟩
      · exact .inl h) h1
  have hs' : c.cells.size = P.cellsOf t := by simpa using hs
  simp [Instr.storeAt, Instr.sureAddr, storeVar, run_sizeOf hp, hs', hst]
theorem TRep.oneCell {Zs Zx : Nat → Prop} {me : Option Nat} {x : T} {c : Value} {G : Nat → Prop} (h : TRep P w Zs Zx me x c G) (h1 : x.oneC = true) : c.oneCell' = true := by
  cases h with
  | p me v c F hp hF => exact hp.oneCell h1
  | tup => simp [T.oneC] at h1
  | agg => simp [T.oneC] at h1
  | dead => simp [T.oneC] at h1
  | _ => rfl
theorem HRel.storeOpt {cv : List Value} {h : T} {ch : Value} (R : HRel P w X sl cv h ch F) {p : Pl} {ty : TypeId} {cs : List T} {b j : Nat} (hz : slAt sl p = some (.opt ty cs)) (hcz : cvAt w cv p = some (.pointer (some ⟨b, 0, none⟩)))
    {ts : List T} {vals : List Value} {Gt : Nat → Nat → Prop} (hl : ts.length = vals.length) (hj : j + ts.length ≤ cs.length) (hone : ts.all T.oneC = true)
    (hrep : ∀ (w' : World) (Zs Zx : Nat → Prop), (∀ b, zs w X F b → Zs b) → (∀ b, zx w F b → Zx b) → (∀ b, F sl.length b ∨ zx w F b → w'.heap[b]? = w.heap[b]?) →
      ∀ (i : Nat) (t : T) (c : Value), ts[i]? = some t → vals[i]? = some c → TRep P w' Zs Zx (some b) t c (Gt i))
    (hsubt : ∀ i x, i < ts.length → Gt i x → F sl.length x) (htd : ∀ i k x, i < ts.length → k < ts.length → Gt i x → Gt k x → i = k) {sl' : List S}
    (hp : putN sl p (.opt ty (cs.take j ++ ts ++ cs.drop (j + ts.length))) true = some sl') :
    (∃ cur, w.heap[b]? = some (.cells cur ty (0, 0)) ∧ j + vals.length ≤ cur.size) ∧ (∀ v ∈ vals, v.oneCell' = true) ∧ ∃ F', Rel P (w.setCells b j vals) X sl' cv F' ∧ To w F (w.setCells b j vals) F' := by
  obtain ⟨me, cz, G, hcz', hT, hsub, hGn, hput⟩ := R.node2 hz
  rw [hcz] at hcz'; cases hcz'
  cases hT with
  | opt me ty cs b vs _ G' hw hlv h1 hrep0 hF hb hd =>
    refine ⟨⟨vs, hw, by omega⟩, fun v hv => ?_, ?_⟩
    · obtain ⟨i, hi⟩ := List.getElem?_of_mem hv
      have hit : i < ts.length := by rw [hl]; exact (List.getElem?_eq_some_iff.1 hi).1
      exact (hrep w _ _ (fun _ h => h) (fun _ h => h) (fun _ _ => rfl) i _ v (List.getElem?_eq_getElem hit) hi).oneCell (List.all_eq_true.1 hone _ (List.getElem_mem hit))
    · obtain ⟨cur', hcur, hcl⟩ := setCells_row vals j w vs hw (by omega)
      have hnb : ¬ F sl.length b := hGn b ((hF b).2 (.inl rfl))
      have hGb : G b := (hF b).2 (.inl rfl)
      have hget : ∀ k, cur'[k]? = if k < j then vs[k]? else if k < j + vals.length then vals[k - j]? else vs[k]? := fun k => by
        have := mid_get (A := vs.toList) (B := vals) (j := j) (by simp; omega) k
        rw [← hcl] at this
        simpa using this
      have hsz : cur'.size = vs.size := by
        have : cur'.toList.length = vs.toList.length := by rw [hcl]; exact mid_len (by simp; omega)
        simpa using this
      have hnzx : ∀ x, zx w F x → x ≠ b := fun x hx e => hx.2 p.s (e ▸ hsub b hGb)
      obtain ⟨F2, R2, t2⟩ := hput (w.setCells b j vals) (.opt ty (cs.take j ++ ts ++ cs.drop (j + ts.length))) .dead undef
        (fun x => x = b ∨ (∃ i, i < cs.length ∧ ¬ (j ≤ i ∧ i < j + ts.length) ∧ G' i x) ∨ ∃ i, i < ts.length ∧ Gt i x) (fun _ => False) true sl' hp (setCells_turns b vals j w _ (.inl hGb))
        (fun x hx => .inl (hx.elim (fun e => .inl (e ▸ hGb)) fun hx => hx.elim (fun ⟨i, hi, _, hg⟩ => .inl ((hF x).2 (.inr ⟨i, hi, hg⟩))) fun ⟨i, hi, hg⟩ => .inr (hsubt i x hi hg))) (fun _ hx => hx.elim)
        (fun x hx => by
          rw [setCells_size]
          rcases hx with (e | ⟨i, hi, _, hg⟩ | ⟨i, hi, hg⟩) | hx
          · exact R.rel.lt _ x (hsub x (e ▸ hGb))
          · exact R.rel.lt _ x (hsub x ((hF x).2 (.inr ⟨i, hi, hg⟩)))
          · exact R.rel.lt _ x (hsubt i x hi hg)
          · exact hx.elim) (fun _ _ h => h)
        (fun Zs Zx hs hx hf => ⟨opt_mid (w' := w.setCells b j vals) (Zs := Zs) (Zx := Zx) (Zs' := Zs) (Zx' := Zx) (me := me) (vs := cur') hcur (by omega) h1
          (fun i y c hi hc hne => by
            have hc' : vs[i]? = some c := by
              rw [hget] at hc
              split at hc
              · exact hc
              · rw [if_neg (by omega)] at hc; exact hc
            refine (hrep0 i y c hi hc').mono zs_zx hs hx fun x hx' => setCells_other ?_ _ _ _
            rcases hx' with hx' | hx'
            · rintro rfl; exact hb i (List.getElem?_eq_some_iff.1 hi).1 hx'
            · exact hnzx x hx') hb hd hj (fun i v hv => by
              have := List.all_eq_true.1 hone _ (List.mem_of_getElem? hv)
              exact this)
          (fun i y c hi hc => hrep (w.setCells b j vals) Zs Zx hs hx (fun x hx' => setCells_other (by
              rcases hx' with hx' | hx'
              · rintro rfl; exact hnb hx'
              · exact hnzx x hx') _ _ _) i y c hi (by
              have hlt : i < vals.length := by rw [← hl]; exact (List.getElem?_eq_some_iff.1 hi).1
              rw [hget, if_neg (by omega), if_pos (by omega), show j + i - j = i by omega] at hc; exact hc))
          (fun i hi hg => hnb (hsubt i b hi hg)) htd (fun i k x hi _ hk hgi hgk => hGn x ((hF x).2 (.inr ⟨i, hi, hgi⟩)) (hsubt k x hk hgk)), .dead _ _ _ fun _ => id⟩) (by simp) (fun _ => by simp [T.like]; omega)
      obtain ⟨F3, R3, t3⟩ := R2.base
      exact ⟨F3, R3, t2.trans t3⟩
def OpS (P : Program) (w : World) (X : Nat → Prop) (F : Nat → Nat → Prop) (cv : List Value) (sl' : List S) (m : Sem Unit) : Prop :=
  ∃ w' F', m.run P w = .ok () w' ∧ Rel P w' X sl' cv F' ∧ To w F w' F'
theorem HRel.stored {cv : List Value} {h : T} {ch : Value} (R : HRel P w X sl cv h ch F) {p : Pl} {t ty : TypeId} {cs : List T} {b j : Nat} (hz : slAt sl p = some (.opt ty cs)) (hcz : cvAt w cv p = some (.pointer (some ⟨b, 0, none⟩)))
    {ts : List T} {c : Value} {Gt : Nat → Nat → Prop} (hl : ts.length = c.cells.toList.length) (hj : j + ts.length ≤ cs.length) (hone : ts.all T.oneC = true)
    (hrep : ∀ (w' : World) (Zs Zx : Nat → Prop), (∀ b, zs w X F b → Zs b) → (∀ b, zx w F b → Zx b) → (∀ b, F sl.length b ∨ zx w F b → w'.heap[b]? = w.heap[b]?) →
      ∀ (i : Nat) (t : T) (d : Value), ts[i]? = some t → c.cells.toList[i]? = some d → TRep P w' Zs Zx (some b) t d (Gt i))
    (hsubt : ∀ i x, i < ts.length → Gt i x → F sl.length x) (htd : ∀ i k x, i < ts.length → k < ts.length → Gt i x → Gt k x → i = k) {sl' : List S}
    (hp : putN sl p (.opt ty (cs.take j ++ ts ++ cs.drop (j + ts.length))) true = some sl') (hsz : ts.length = P.cellsOf t) (hpos : 0 < P.cellsOf t) :
    OpS P w X F cv sl' (Instr.storeAt t (.pointer (some ⟨b, j, none⟩)) c) := by
  obtain ⟨⟨cur, h1, h2⟩, h3, F', R', t'⟩ := R.storeOpt hz hcz hl hj hone hrep hsubt htd hp
  exact ⟨_, F', run_store' h1 h2 (fun k _ _ hh => by simp at hh) h3 (by omega) hpos, R', t'⟩
theorem set_mid {α : Type} {l : List α} {j : Nat} (h : j < l.length) (x : α) : l.set j x = l.take j ++ [x] ++ l.drop (j + 1) := by
  rw [List.set_eq_take_append_cons_drop, if_pos h]; simp
theorem val_one {x : T} {c : Value} {Zs Zx G : Nat → Prop} {me : Option Nat} (h : TRep P w Zs Zx me x c G) (h1 : x.oneC = true) : c.cells.toList = [c] := by
  have := h.oneCell h1
  cases c <;> simp_all [Value.oneCell', Value.cells]
theorem HRel.storeHand {cv : List Value} {y : T} {c : Value} (R : HRel P w X sl cv y c F) {p : Pl} {t ty : TypeId} {cs : List T} {b j : Nat} (hz : slAt sl p = some (.opt ty cs)) (hcz : cvAt w cv p = some (.pointer (some ⟨b, 0, none⟩)))
    (hj : j < cs.length) (hone : y.oneC = true) {sl' : List S} (hp : putN sl p (.opt ty (cs.set j y)) true = some sl') (hsz : P.cellsOf t = 1) :
    OpS P w X F cv sl' (Instr.storeAt t (.pointer (some ⟨b, j, none⟩)) c) := by
  have hc := val_one R.hand hone
  refine R.stored (ts := [y]) (Gt := fun _ => F sl.length) hz hcz (by simp [hc]) (by simp; omega) (by simpa using hone) (fun w' Zs Zx hs hx hw i u d hu hd => ?_) (fun _ _ _ h => h) (fun i k x hi hk _ _ => by simp at hi hk; omega)
    (by rw [set_mid hj] at hp; exact hp) (by simp [hsz]) (by omega)
  rw [hc] at hd
  cases i <;> simp at hu hd
  subst hu; subst hd
  exact (R.hand.mono zs_zx hs hx hw).up
theorem op_storeOne (R : Sit P w X sl F a gv) {t : TypeId} {x ad : Operand} (hx : OkT a x) (had : OkT a ad) {p : Pl} {i j : Nat} {ty : TypeId} {cs : List T} {sl' : List S}
    (hrd : rd sl ad = some (.bpt p i j)) (hz : slAt sl p = some (.opt ty cs)) (h : storeOne P t sl p j x = some sl') (hsz : P.cellsOf t = 1) :
    OpS P w X F (a.tmps.toList ++ gv) sl' (Instr.storeAt t (a.eval ad) (a.eval x)) := by
  obtain ⟨b, hcz, _, hc⟩ := opt_ptr (rd_val R had hrd) hz
  rw [hc]
  unfold storeOne at h
  split at h
  · rename_i y sl1 ht
    split at h
    · rename_i ty' cs' hz1
      split at h
      · rename_i hh
        obtain ⟨F1, R1, t1⟩ := tkT_run R hx ht
        obtain ⟨w', F2, h2, R2, t2⟩ := R1.storeHand (t := t) hz1 hcz hh.2 hh.1 h hsz
        exact ⟨w', F2, h2, R2, t1.trans t2⟩
      · cases h
    · cases h
  · cases h
theorem put_put (y1 y2 : T) : ∀ (path : List Nat) (x : T), T.put y2 path (T.put y1 path x) = T.put y2 path x
  | [], x => rfl
  | j :: r, x => by
    cases x with
    | opt ty cs =>
      simp only [T.put]
      cases hj : cs[j]? with
      | none => simp [hj, T.put]
      | some z =>
        have hlt := (List.getElem?_eq_some_iff.1 hj).1
        simp [T.put, List.getElem?_set_self hlt, put_put y1 y2 r z]
    | ifc u x =>
      cases j with
      | zero => simp only [T.put, put_put y1 y2 r x]
      | succ j => rfl
    | _ => rfl
theorem putN_putN {p : Pl} {y1 y2 : T} {k : Bool} {sl1 : List S} (h : putN sl p y1 k = some sl1) : putN sl1 p y2 k = putN sl p y2 k := by
  unfold putN at h ⊢
  split at h
  · rename_i x hx
    cases h
    have hlt : p.s < (killP p k sl).length := by rw [killP_length]; exact (List.getElem?_eq_some_iff.1 hx).1
    rw [List.getElem?_set_self hlt]
    simp only [put_put, Option.some.injEq]
    apply List.ext_getElem?
    intro i
    by_cases hi : i = p.s
    · subst hi
      rw [List.getElem?_set_self (by rw [killP_length]; simpa using hlt), List.getElem?_set_self hlt]
    · rw [List.getElem?_set_ne (Ne.symm hi), List.getElem?_set_ne (Ne.symm hi)]
      simp only [killP, List.getElem?_map]
      rw [List.getElem?_set_ne (Ne.symm hi), List.getElem?_map]
      cases sl[i]? with
      | none => rfl
      | some s => simp only [Option.map_some, kill_eq, killBy_and, Bool.and_self]
  · cases h
theorem at_put (y : T) : ∀ (path : List Nat) (x z : T), x.at path = some z → (T.put y path x).at path = some y := fun path x z h => by
  have := put_at_prefix y path [] x z h
  simpa [T.put] using this
theorem Rel.pickCell {cv : List Value} (R : Rel P w X sl cv F) {p : Pl} {ty : TypeId} {cs : List T} {b j : Nat} {y : T} (hz : slAt sl p = some (.opt ty cs)) (hcz : cvAt w cv p = some (.pointer (some ⟨b, 0, none⟩))) (hy : cs[j]? = some y) (hs : y ≠ .self)
    {sl1 : List S} (hp : putN sl p (.opt ty (cs.set j .dead)) true = some sl1) :
    ∃ c F', w.cell? ⟨b, j, none⟩ = some c ∧ HRel P w X sl1 cv y c F' ∧ To w F w F' := by
  obtain ⟨F1, R1, t1⟩ := R.giveDead
  obtain ⟨me, cz, G, hcz', hT, hsub, hGn, hput⟩ := R1.node2 hz
  rw [hcz] at hcz'; cases hcz'
  have hj : j < cs.length := (List.getElem?_eq_some_iff.1 hy).1
  cases hT with
  | opt me ty cs b vs _ G' hw hlv h1 hrep hF hb hd =>
    have hcj : vs[j]? = some vs[j] := Array.getElem?_eq_getElem (by omega)
    obtain ⟨F2, R2, t2⟩ := hput w (.opt ty (cs.set j .dead)) y vs[j]
      (fun x => x = b ∨ (∃ i, i < cs.length ∧ ¬ (j ≤ i ∧ i < j + 1) ∧ G' i x)) (G' j) true sl1 hp (Turns.refl _ _)
      (fun x hx => .inl (.inl ((hF x).2 (hx.imp id fun ⟨i, hi, _, hg⟩ => ⟨i, hi, hg⟩)))) (fun x hg => .inl (.inl ((hF x).2 (.inr ⟨j, hj, hg⟩))))
      (fun x hx => R1.rel.lt _ x (hsub x ((hF x).2 (hx.elim (fun hx => hx.imp id fun ⟨i, hi, _, hg⟩ => ⟨i, hi, hg⟩) fun hg => .inr ⟨j, hj, hg⟩))))
      (fun x hx hg => hx.elim (fun e => by subst e; exact hb _ hj hg) fun ⟨i, hi, hne, hgi⟩ => by have := hd i j x hi hj hgi hg; omega)
      (fun Zs Zx hs' hx hf => ⟨by
        have := opt_mid (w' := w) (Zs := Zs) (Zx := Zx) (Zs' := Zs) (Zx' := Zx) (me := me) (ts := [T.dead]) (j := j) (G := G') (Gt := fun _ _ => False) hw hlv h1
          (fun i y c hi hc _ => (hrep i y c hi hc).mono zs_zx hs' hx fun _ _ => rfl) hb hd (by simp; omega) (fun i v hv => by cases i <;> simp at hv) (fun i y c hi _ => by
            cases i <;> simp at hi
            subst hi; exact .dead _ _ _ fun _ => id) (by simp) (fun _ _ _ _ _ h => h.elim) (fun _ _ _ _ _ _ _ h => h)
        rw [set_mid hj]
        simp only [List.length_cons, List.length_nil] at this
        exact this.iff fun x => ⟨fun hx => hx.imp id fun hx => hx.elim id fun ⟨_, _, h⟩ => h.elim, fun hx => hx.imp id .inl⟩,
        ((hrep j y _ hy hcj).mono zs_zx hs' hx fun _ _ => rfl).anyMe hs⟩) (by simp) (fun _ => by simp [T.like])
    exact ⟨vs[j], F2, by rw [cell_row hw]; exact hcj, R2, t1.trans t2⟩
end
end Go.Proofs.Ytffofdfikmpanaa.A
namespace Go.Proofs.Ytffofdfikmpanaa.A
set_option linter.unusedVariables false
set_option linter.unusedSimpArgs false
section
variable {P : Program} {X : Nat → Prop} {w : World} {sl : List S} {F : Nat → Nat → Prop} {a : Act} {gv : List Value}
theorem mid_get' {α : Type} {A B : List α} {j : Nat} (h : j ≤ A.length) (k : Nat) : (A.take j ++ B ++ A.drop (j + B.length))[k]? = if k < j then A[k]? else if k < j + B.length then B[k - j]? else A[k]? := by
  by_cases h1 : k < j
  · rw [if_pos h1, List.append_assoc, List.getElem?_append_left (by simp; omega), List.getElem?_take, if_pos h1]
  · rw [if_neg h1]
    by_cases h2 : k < j + B.length
    · rw [if_pos h2, List.getElem?_append_left (by simp; omega), List.getElem?_append_right (by simp; omega)]
      simp; congr 1; omega
    · rw [if_neg h2, List.getElem?_append_right (by simp; omega), List.getElem?_drop]
      congr 1; simp; omega
theorem row_mid {α : Type} {A N : List α} {o k m0 m : Nat} (hk : k ≤ m0) (hm0 : o + m0 ≤ A.length) (hm : m = max m0 (k + N.length)) (hA : o + k + N.length ≤ A.length) :
    ((A.take (o + k) ++ N ++ A.drop (o + k + N.length)).drop o).take m = ((A.drop o).take m0).take k ++ N ++ ((A.drop o).take m0).drop (k + N.length) := by
  apply List.ext_getElem?
  intro q
  rw [mid_get' (by simp; omega), List.getElem?_take, List.getElem?_drop, mid_get hA]
  by_cases h1 : q < k
  · rw [if_pos h1, if_pos (by omega), if_pos (by omega), List.getElem?_take, if_pos (by omega), List.getElem?_drop]
  · rw [if_neg h1]
    by_cases h2 : q < k + N.length
    · rw [if_pos h2, if_pos (by omega), if_neg (by omega), if_pos (by omega)]; congr 1; omega
    · rw [if_neg h2]
      by_cases h3 : q < m0
      · rw [if_pos (by omega), if_neg (by omega), if_neg (by omega), List.getElem?_take, if_pos h3, List.getElem?_drop]
      · rw [if_neg (by omega), List.getElem?_take, if_neg h3]
theorem own_write {Zs Zx : Nat → Prop} {me : Option Nat} {ty : TypeId} {es es' : List V} {b o L cap k : Nat} {G : Nat → Prop} {news : List Value} {vnews : List V}
    (hT : TRep P w Zs Zx me (.own ty es) (.slice (some ⟨b, o, none⟩) L cap) G) (hpos : 0 < P.cellsOf ty) (hcap : cap ≠ 0) (hn : k + news.length ≤ cap * P.cellsOf ty) (hk : k ≤ es.length * P.cellsOf ty) (hv : vnews.length = news.length)
    (hfl : flat es' = splice (flat es) k vnews) (hcl' : ∀ x ∈ es', x.cells.length = P.cellsOf ty) (hle : es'.length ≤ cap) :
    (∃ cur fz, w.heap[b]? = some (.cells cur ty fz) ∧ o + k + news.length ≤ cur.size ∧ ∀ q, o + k ≤ q → q < o + k + news.length → ¬ (fz.1 ≤ q ∧ q < fz.2)) ∧ (∀ x, G x ↔ x = b) ∧
      ∀ Zs' Zx', PW w Zs vnews news → (∀ x, Zs x → Zs' x) → ¬ Zs b → TRep P (w.setCells b (o + k) news) Zs' Zx' me (.own ty es') (.slice (some ⟨b, o, none⟩) es'.length cap) G := by
  cases hT with
  | own0 => exact absurd rfl hcap
  | own me ty es b o cap vs fz F hw hc hsz hpos hfz hcl h1 h hF =>
    obtain ⟨hcl0, hpw⟩ := own_pw (Zx := Zs) hc hsz hcl h1 h
    refine ⟨⟨vs, fz, hw, by omega, fun q h1 h2 => hfz q (by omega) (by omega)⟩, hF, fun Zs' Zx' hnw hs hb => ?_⟩
    obtain ⟨cur', hcur, hcl1⟩ := setCells_row news (o + k) w vs hw (by omega)
    have hlen : cur'.size = vs.size := by
      have : cur'.toList.length = vs.toList.length := by rw [hcl1]; exact mid_len (by simp; omega)
      simpa using this
    have hmul : es.length * P.cellsOf ty ≤ cap * P.cellsOf ty := Nat.mul_le_mul_right _ hc
    have hm : es'.length * P.cellsOf ty = max (es.length * P.cellsOf ty) (k + news.length) := by
      rw [← flat_len hcl', hfl]
      simp only [splice, List.length_append, List.length_take, List.length_drop, flat_len hcl0, hv]
      omega
    refine own_mk hcur hle (by omega) hpos hfz hcl' ?_ hF
    rw [hcl1, row_mid hk (by simp; omega) hm (by simp; omega), hfl]
    exact (hpw.splice hnw k).mono hs fun x hx => setCells_other (fun e => hb (by rw [← e]; exact hx)) _ _ _
theorem storeEl_cells {e : V} {j : Nat} {vs : List V} (hj : j + vs.length ≤ e.cells.length) (h1 : ∀ v ∈ vs, v.one = true) (hp : 0 < vs.length) : (storeEl e j vs).cells = splice e.cells j vs := by
  have one : ∀ {u : V}, j + vs.length ≤ u.cells.length → u.cells = [u] → (match vs with | [v] => v | _ => u).cells = splice u.cells j vs := by
    intro u hj hu
    rw [hu] at hj ⊢
    simp at hj
    have hj0 : j = 0 := by omega
    subst hj0
    match vs, hp, hj with
    | [v], _, _ =>
      have := h1 v (by simp)
      cases v <;> simp_all [splice, V.cells, V.one]
  cases e with
  | agg cs => rfl
  | _ => exact one hj rfl
theorem flat_storeEl {sz : Nat} {es : List V} (h : ∀ e ∈ es, e.cells.length = sz) {i j : Nat} {e : V} (he : es[i]? = some e) {vs : List V} (hj : j + vs.length ≤ sz) (h1 : ∀ v ∈ vs, v.one = true) (hp : 0 < vs.length) :
    flat (es.set i (storeEl e j vs)) = splice (flat es) (i * sz + j) vs ∧ (storeEl e j vs).cells.length = sz := by
  have hi : i < es.length := (List.getElem?_eq_some_iff.1 he).1
  have hez : e.cells.length = sz := h e (List.mem_of_getElem? he)
  have hc := storeEl_cells (e := e) (by rw [hez]; exact hj) h1 hp
  have hl : (storeEl e j vs).cells.length = sz := by rw [hc, splice_len (by rw [hez]; exact hj), hez]
  refine ⟨?_, hl⟩
  have hmul : i * sz + sz ≤ es.length * sz := mul_succ_le (k := 0) hi
  rw [flat_set h hi hl, hc]
  apply List.ext_getElem?
  intro k
  have hsl : (splice e.cells j vs).length = sz := by rw [splice_len (by rw [hez]; exact hj), hez]
  have hfl := flat_len h
  simp only [splice] at hsl ⊢
  rw [mid_get (A := flat es) (B := List.take j e.cells ++ vs ++ List.drop (j + vs.length) e.cells) (j := i * sz) (by rw [hsl, hfl]; exact hmul), mid_get (A := flat es) (B := vs) (by rw [hfl]; omega), hsl]
  by_cases h1 : k < i * sz
  · rw [if_pos h1, if_pos (by omega)]
  · rw [if_neg h1]
    by_cases h2 : k < i * sz + sz
    · rw [if_pos h2, mid_get (A := e.cells) (B := vs) (by rw [hez]; exact hj)]
      have hg := flat_get h i (k - i * sz) e he (by omega)
      rw [show i * sz + (k - i * sz) = k by omega] at hg
      by_cases h3 : k - i * sz < j
      · rw [if_pos h3, if_pos (show k < i * sz + j by omega), hg]
      · rw [if_neg h3, if_neg (show ¬ (k < i * sz + j) by omega)]
        by_cases h4 : k - i * sz < j + vs.length
        · rw [if_pos h4, if_pos (show k < i * sz + j + vs.length by omega)]; congr 1; omega
        · rw [if_neg h4, if_neg (show ¬ (k < i * sz + j + vs.length) by omega), hg]
    · rw [if_neg h2, if_neg (show ¬ (k < i * sz + j) by omega), if_neg (show ¬ (k < i * sz + j + vs.length) by omega)]
theorem Rel.writeOwn {cv : List Value} (R : Rel P w X sl cv F) {p : Pl} {ty : TypeId} {es es' : List V} {b o L cap k : Nat} {news : List Value} {vnews : List V} (hz : slAt sl p = some (.own ty es)) (hcz : cvAt w cv p = some (.slice (some ⟨b, o, none⟩) L cap))
    (hpos : 0 < P.cellsOf ty) (hcap : cap ≠ 0) (hpw : PW w (zs w X F) vnews news) (hn : k + news.length ≤ es.length * P.cellsOf ty) (hfl : flat es' = splice (flat es) k vnews) (hcl' : ∀ x ∈ es', x.cells.length = P.cellsOf ty) (hle : es'.length = es.length) {sl' : List S}
    (hp : putN sl p (.own ty es') true = some sl') :
    (∃ cur fz, w.heap[b]? = some (.cells cur ty fz) ∧ o + k + news.length ≤ cur.size ∧ ∀ q, o + k ≤ q → q < o + k + news.length → ¬ (fz.1 ≤ q ∧ q < fz.2)) ∧
      ∃ F', Rel P (w.setCells b (o + k) news) X sl' cv F' ∧ To w F (w.setCells b (o + k) news) F' := by
  obtain ⟨F1, R1, t1⟩ := R.giveDead
  obtain ⟨me, cz, G, hcz', hT, hsub, hGn, hput⟩ := R1.node2 hz
  rw [hcz] at hcz'; cases hcz'
  have hL : es.length = L ∧ es.length ≤ cap := by
    cases hT with
    | own0 => exact absurd rfl hcap
    | own => exact ⟨rfl, by assumption⟩
  have hmul : es.length * P.cellsOf ty ≤ cap * P.cellsOf ty := Nat.mul_le_mul_right _ hL.2
  obtain ⟨h1, hG, h2⟩ := own_write (k := k) (news := news) (vnews := vnews) hT hpos hcap (by omega) (by omega) hpw.len hfl hcl' (by rw [hle]; exact hL.2)
  have hGb : G b := (hG b).2 rfl
  refine ⟨h1, ?_⟩
  have hb : ¬ zs w X F1 b := fun h => h.1.2 p.s (hsub b hGb)
  obtain ⟨F2, R2, t2⟩ := hput (w.setCells b (o + k) news) (.own ty es') .dead undef G (fun _ => False) true sl' hp (setCells_turns b news (o + k) w _ (.inl hGb)) (fun x hx => .inl (.inl hx)) (fun _ h => h.elim)
    (fun x hx => by rw [setCells_size]; exact R1.rel.lt _ x (hsub x (hx.elim id False.elim))) (fun _ _ h => h)
    (fun Zs Zx hs hx hf => ⟨by
      have := h2 Zs Zx (hpw.mono t1.zs fun _ _ => rfl) hs hb
      rw [hle, hL.1] at this
      exact this, .dead _ _ _ fun _ => id⟩) (by simp) (fun _ => ⟨rfl, hle.symm⟩)
  obtain ⟨F3, R3, t3⟩ := R2.base
  exact ⟨F3, R3, (t1.trans t2).trans t3⟩
theorem storeAt_run (R : Sit P w X sl F a gv) {t : TypeId} {x ad : Operand} (hx : OkT a x) (had : OkT a ad) {p : Pl} {i j : Nat} {sl' : List S}
    (hrd : rd sl ad = some (.bpt p i j)) (h : storeAt P t sl p i j x = some sl') : OpS P w X F (a.tmps.toList ++ gv) sl' (Instr.storeAt t (a.eval ad) (a.eval x)) := by
  unfold storeAt at h
  split at h
  · rename_i ty es hz
    split at h
    · rename_i v sl1 htk
      split at h
      · rename_i ty' es' hz1
        split at h
        · rename_i e he
          split at h
          · rename_i hh
            obtain ⟨rfl, hvl, hj, hone, hagg, hpos⟩ := hh
            obtain ⟨q, z, cz, hq, hz', hcz, hb⟩ := rd_val R had hrd
            cases hq
            rw [hz] at hz'; cases hz'
            rcases hb with ⟨_, _, b, o, L, cap, hee, rfl, hi, hjl, hc⟩ | ⟨_, _, _, hee, _⟩
            · cases hee
              obtain ⟨F1, R1, t1, hp⟩ := tkVT_run R hx htk
              have hpw := hp.pw
              obtain ⟨me, G, hT, hsub⟩ := R1.node hz1 hcz
              have hcl : ∀ x ∈ es', x.cells.length = P.cellsOf ty' := by
                cases hT with
                | own0 => simp
                | own me ty es b off cap vs fz F hw hc hsz hpos hfz hcl h1 h hF => intro x hx; obtain ⟨i, hi⟩ := List.getElem?_of_mem hx; exact hcl i x hi
              have hcap : cap ≠ 0 := by
                cases hT with
                | own0 => simp at he
                | own me ty es b off cap vs fz F hw hc hsz hpos hfz hcl h1 h hF => have := (List.getElem?_eq_some_iff.1 he).1; omega
              have hi' : i < es'.length := (List.getElem?_eq_some_iff.1 he).1
              obtain ⟨hfl, hel⟩ := flat_storeEl hcl he (by rw [hvl]; exact hj) (fun u hu => List.all_eq_true.1 hone u hu) (by omega)
              have hcl' : ∀ x ∈ es'.set i (storeEl e j v.cells), x.cells.length = P.cellsOf ty' := fun x hx => (List.mem_or_eq_of_mem_set hx).elim (hcl x) fun h => h ▸ hel
              have hmul : i * P.cellsOf ty' + P.cellsOf ty' ≤ es'.length * P.cellsOf ty' := mul_succ_le (k := 0) hi'
              have hnl : (a.eval x).cells.toList.length = P.cellsOf t := by rw [← hpw.len, hvl]
              obtain ⟨⟨cur, fz, h1, h2, h3⟩, F2, R2, t2⟩ := R1.writeOwn hz1 hcz (by omega) hcap hpw (k := i * P.cellsOf ty' + j) (by omega) hfl hcl' (by simp) h
              rw [hc]
              refine ⟨_, F2, ?_, R2, t1.trans t2⟩
              rw [← Nat.add_assoc] at h2 h3 ⊢
              exact run_store' h1 h2 h3 hpw.cell hnl hpos
            · cases hee
          · cases h
        · cases h
      · cases h
    · cases h
  · rename_i ty cs hz
    obtain ⟨b, hcz, _, hc⟩ := opt_ptr (rd_val R had hrd) hz
    split at h
    · rename_i hagg
      split at h
      · rename_i vs sl1 htk
        split at h
        · rename_i ty' cs' hz1
          split at h
          · rename_i hh
            obtain ⟨F1, R1, t1⟩ := tk_run R hx htk
            have hh1 := R1.hand
            generalize hce : a.eval x = ce at hh1
            rw [hce] at R1
            cases hh1 with
            | p me v ce G hp hF =>
              cases hp with
              | agg _ vals hl h1 hrep =>
                obtain ⟨w', F2, h2, R2, t2⟩ := R1.stored (t := t) (j := j) (c := .agg vals.toArray) (ts := vs.map .p) (Gt := fun _ _ => False) hz1 hcz (by simpa [Value.cells] using hl) (by simpa using hh.2)
                  (by rw [List.all_eq_true]; intro y hy; obtain ⟨u, hu, rfl⟩ := List.mem_map.1 hy; obtain ⟨i, hi⟩ := List.getElem?_of_mem hu; exact h1 i u hi)
                  (fun w' Zs Zx hs hx hw i y d hy hd => by
                    simp only [List.getElem?_map, Option.map_eq_some_iff] at hy
                    obtain ⟨u, hu, rfl⟩ := hy
                    exact .p _ u d _ ((hrep i u d hu (by simpa [Value.cells] using hd)).mono zs_zx hs hx fun b hb => hw b (.inr hb)) fun _ => id) (fun _ _ _ h => h.elim) (fun _ _ _ _ _ h => h.elim)
                  (by rw [List.length_map]; exact h) (by simpa using hh.1) hagg.2
                rw [hc]
                exact ⟨w', F2, h2, R2, t1.trans t2⟩
          · cases h
        · cases h
      · rename_i ts sl1 htk
        split at h
        · rename_i ty' cs' hz1
          split at h
          · rename_i hh
            obtain ⟨F1, R1, t1⟩ := tk_run R hx htk
            have hh1 := R1.hand
            generalize hce : a.eval x = ce at hh1
            rw [hce] at R1
            generalize hG : F1 sl1.length = G at hh1
            cases hh1 with
            | agg me _ vals _ G' hl h1 hrep hF hd =>
              subst hG
              obtain ⟨w', F2, h2, R2, t2⟩ := R1.stored (t := t) (j := j) (c := .agg vals.toArray) (ts := ts) (Gt := G') hz1 hcz (by simpa [Value.cells] using hl) hh.2.1 hh.2.2
                (fun w' Zs Zx hs hx hw i y d hy hd => ((hrep i y d hy (by simpa [Value.cells] using hd)).mono zs_zx hs hx fun b hb => hw b (hb.imp (fun hb => (hF b).2 ⟨i, (List.getElem?_eq_some_iff.1 hy).1, hb⟩) id)).up)
                (fun i x hi hg => (hF x).2 ⟨i, hi, hg⟩) hd h hh.1 hagg.2
              rw [hc]
              exact ⟨w', F2, h2, R2, t1.trans t2⟩
          · cases h
        · cases h
      · cases h
    · split at h
      · rename_i hagg
        have other : storeOne P t sl p j x = some sl' → OpS P w X F (a.tmps.toList ++ gv) sl' (Instr.storeAt t (a.eval ad) (a.eval x)) := fun h => op_storeOne R hx had hrd hz h hagg.2
        split at h
        · rename_i q hs
          split at h
          · rename_i hh
            obtain ⟨rfl, hj⟩ := hh
            cases x with
            | tmp u =>
              simp only at hs
              obtain ⟨b', hcz', _, hcx⟩ := opt_ptr (slotV (R.rel.slot u _ _ hs (eval_tmp (hx u rfl) gv)) (by simp)) hz
              rw [hcz] at hcz'; cases hcz'
              obtain ⟨F1, R1, t1⟩ := R.rel.giveDead
              obtain ⟨w', F2, h2, R2, t2⟩ := R1.stored (t := t) (j := j) (c := a.eval (.tmp u)) (ts := [.self]) (Gt := fun _ _ => False) hz hcz (by rw [hcx]; rfl) (by simp; omega) rfl
                (fun w' Zs Zx hs hx hw i y d hy hd => by
                  rw [hcx] at hd
                  cases i <;> simp [Value.cells] at hy hd
                  subst hy; subst hd; exact .self b _ fun _ => id) (fun _ _ _ h => h.elim) (fun _ _ _ _ _ h => h.elim)
                (by rw [set_mid hj] at h; exact h) (by simp [hagg.2]) (by omega)
              rw [hc]
              exact ⟨w', F2, h2, R2, t1.trans t2⟩
            | _ => cases hs
          · cases h
        · rename_i q off len ex hs
          split at h
          · rename_i hq
            subst hq
            split at h
            · rename_i ty' es hcj
              cases x with
              | tmp u =>
                simp only at hs
                have hj : j < cs.length := (List.getElem?_eq_some_iff.1 hcj).1
                obtain ⟨q, z, cz, hq, hz', hcz', hb⟩ := slotV (R.rel.slot u _ _ hs (eval_tmp (hx u rfl) gv)) (by simp)
                cases hq
                rw [slAt_snoc hz hcj] at hz'; cases hz'
                have hp1 : ∃ sl1, putN sl p (.opt ty (cs.set j .dead)) true = some sl1 := by
                  unfold putN at h ⊢
                  split at h
                  · exact ⟨_, rfl⟩
                  · cases h
                obtain ⟨sl1, hp1⟩ := hp1
                obtain ⟨c, F1, hcell, R1, t1⟩ := R.rel.pickCell hz hcz hcj (by simp) hp1
                rw [cvAt_snoc hcz hcell] at hcz'; cases hcz'
                obtain ⟨G', hG', hsub⟩ := own_sub R1.hand hb
                obtain ⟨F2, R2, t2⟩ := R1.swap (.own ty' ((es.drop off).take len)) (a.eval (.tmp u)) G' (Turns.refl _ _) (fun b hb => .inl (hsub b hb)) (fun b hb => R1.rel.lt _ b (hsub b hb))
                  (fun Zs Zx hs hx _ => hG'.mono zs_zx hs hx fun _ _ => rfl)
                have hz1 : slAt sl1 p = some (.opt ty (cs.set j .dead)) := by
                  obtain ⟨y, hy, _, _, hget, _⟩ := putN_get hp1
                  simp only [slAt, hget]
                  simp only [slAt, hy] at hz
                  exact at_put _ _ _ _ hz
                have hput : putN sl1 p (.opt ty ((cs.set j .dead).set j (.own ty' ((es.drop off).take len)))) true = some sl' := by
                  rw [List.set_set, putN_putN hp1]; exact h
                obtain ⟨w', F3, h3, R3, t3⟩ := R2.storeHand (t := t) hz1 hcz (by simpa using hj) rfl hput hagg.2
                rw [hc]
                exact ⟨w', F3, h3, R3, (t1.trans t2).trans t3⟩
              | _ => cases hs
            · cases h
          · exact other h
        · exact other h
      · cases h
  · cases h
end
end Go.Proofs.Ytffofdfikmpanaa.A
namespace Go.Proofs.Ytffofdfikmpanaa.A
set_option linter.unusedVariables false
set_option linter.unusedSimpArgs false
section
variable {P : Program} {X : Nat → Prop} {w : World} {sl : List S} {F : Nat → Nat → Prop} {a : Act} {gv : List Value}
structure Src (P : Program) (w : World) (Z : Nat → Prop) (sz : Nat) (es : List V) (cy : Value) (news : List Value) : Prop where
  cl : ∀ x ∈ es, x.cells.length = sz
  pw : PW w Z (flat es) news
  len : ∀ w', (Builtin.lenOf cy).run P w' = .ok es.length w'
  first : ∀ m ≤ es.length, ∀ w', w'.heap = w.heap → (Builtin.firstCells sz m cy).run P w' = .ok (news.take (m * sz)).toArray w'
theorem Src.mono {Z Z' : Nat → Prop} {sz : Nat} {es : List V} {cy : Value} {news : List Value} (h : Src P w Z sz es cy news) (hz : ∀ b, Z b → Z' b) : Src P w Z' sz es cy news :=
  ⟨h.cl, h.pw.mono hz fun _ _ => rfl, h.len, h.first⟩
theorem src_str (Z : Nat → Prop) (l : List UInt8) : Src P w Z 1 (bytesV l) (.string ⟨l.toArray⟩) (l.map fun b => Value.int .u8 b.toNat) := by
  have hsz : (⟨l.toArray⟩ : ByteArray).size = l.length := by simp [ByteArray.size]
  refine ⟨fun x hx => by simp only [bytesV, List.mem_map] at hx; obtain ⟨b, _, rfl⟩ := hx; rfl, bytes_pw l, fun w' => by simp [Builtin.lenOf, hsz, bytesV], fun m hm w' _ => ?_⟩
  simp only [bytesV, List.length_map] at hm
  have : (⟨l.toArray⟩ : ByteArray).extract 0 m = ⟨(l.take m).toArray⟩ := by
    apply ByteArray.ext
    simp
  simp [Builtin.firstCells, this, List.map_take]
theorem src_els {Z : Nat → Prop} {sz : Nat} {es : List V} {c : Value} (h : Els w Z sz es c) : ∃ news, Src P w Z sz es c news := by
  obtain ⟨ad, cap, rfl, hc, hcell⟩ := h.ex
  have hcl : ∀ x ∈ es, x.cells.length = sz := fun x hx => by obtain ⟨i, hi⟩ := List.getElem?_of_mem hx; exact h.len i x hi
  by_cases he : es = []
  · subst he
    refine ⟨[], by simp, by simpa [flat_nil] using PW.nil, fun w' => rfl, fun m hm w' _ => ?_⟩
    have : m = 0 := by simpa using hm
    subst this
    cases ad with
    | none => simp [Builtin.firstCells]
    | some x => simpa using run_firstCells_some (P := P) w' sz 0 x ([] : List V).length cap [] (by simp) (by simp)
  · obtain ⟨b, o, rfl, hcl2⟩ := hcell he
    have hex : ∀ k, k < es.length * sz → ∃ x, w.cell? ⟨b, o + k, none⟩ = some x := fun k hk => by
      have hlt : k < (flat es).length := by rw [flat_len hcl]; exact hk
      obtain ⟨i, j, e, hi, hj, rfl⟩ := flat_inv hcl k _ (List.getElem?_eq_getElem hlt)
      obtain ⟨c, hc, _⟩ := hcl2 i j e _ hi hj
      exact ⟨c, by rw [← Nat.add_assoc]; exact hc⟩
    obtain ⟨news, hl, hg⟩ := listOf (es.length * sz) (fun k => w.cell? ⟨b, o + k, none⟩) hex
    refine ⟨news, hcl, ⟨by rw [flat_len hcl, hl], fun v hv => ?_, fun k v c hk hkc => ?_⟩, fun w' => rfl, fun m hm w' hw' => ?_⟩
    · obtain ⟨e, he, hv⟩ := List.mem_flatMap.1 hv
      obtain ⟨i, hi⟩ := List.getElem?_of_mem he
      obtain ⟨j, hj⟩ := List.getElem?_of_mem hv
      exact h.one i j e v hi hj
    · obtain ⟨i, j, e, hi, hj, rfl⟩ := flat_inv hcl k v hk
      obtain ⟨c', hc', hp⟩ := hcl2 i j e v hi hj
      rw [hg _ (by rw [← hl]; exact (List.getElem?_eq_some_iff.1 hkc).1), ← Nat.add_assoc, hc'] at hkc
      cases hkc; exact hp
    · have hmul : m * sz ≤ es.length * sz := Nat.mul_le_mul_right _ hm
      refine run_firstCells_some (P := P) w' sz m ⟨b, o, none⟩ es.length cap (news.take (m * sz)) (by simp; omega) fun j v hj => ?_
      rw [List.getElem?_take] at hj
      split at hj
      · rename_i hlt
        rw [hg j (by omega)] at hj
        rw [add_at, World.cell?, hw']; exact hj
      · cases hj
theorem Src.nil {Z : Nat → Prop} {sz sz' : Nat} {cy : Value} {news : List Value} (h : Src P w Z sz [] cy news) : Src P w Z sz' [] cy [] := by
  refine ⟨by simp, by simpa [flat_nil] using PW.nil, h.len, fun m hm w' hw' => ?_⟩
  have : m = 0 := by simpa using hm
  subst this
  have h0 := h.first 0 (by simp) w' hw'
  simp only [Nat.zero_mul] at h0 ⊢
  cases cy with
  | slice ad n cap => cases ad <;> first | (simp [Builtin.firstCells]; done) | simpa [Builtin.firstCells] using h0
  | string s => first | (simp [Builtin.firstCells]; done) | simpa [Builtin.firstCells] using h0
  | _ => simp [Builtin.firstCells] at h0
theorem src_run (R : Sit P w X sl F a gv) {y : Operand} (hy : OkT a y) {sz sz' : Nat} {es : List V} (h : srcA P sl y = some (sz, es)) (hs : es = [] ∨ sz = sz') : ∃ news, Src P w (zs w X F) sz' es (a.eval y) news := by
  have key : ∃ news, Src P w (zs w X F) sz es (a.eval y) news := by
    unfold srcA at h
    split at h
    · rename_i s hr
      cases h
      have hv := rd_val R hy hr
      have hv' : PRep w (zs w X F) (zx w F) (.str s) (a.eval y) := hv
      generalize a.eval y = c at hv'
      cases hv'
      exact ⟨_, src_str _ s⟩
    · rename_i s _ hr
      exact src_els (elems_val R (rd_val R hy hr) h)
    · cases h
  obtain ⟨news, hk⟩ := key
  rcases hs with rfl | rfl
  · exact ⟨[], hk.nil⟩
  · exact ⟨news, hk⟩
theorem noInt_desc {u : TypeId} (h : noInt P u = true) : (∃ e, P.underlying u = some (.slice e)) ∨ P.underlying u = some .string := by
  unfold noInt at h
  split at h
  · rename_i e he; exact .inl ⟨e, he⟩
  · rename_i he; exact .inr he
  · cases h
structure AppendOk (P : Program) (t u e : TypeId) (i : TypeInfo) (z : Value) : Prop where
  ht : P.underlying t = some (.slice e)
  hu : noInt P u = true
  hi : P.info? e = some i
  hz : i.zero = some z
  size : i.size = P.cellsOf e
  zsize : z.cells.size = P.cellsOf e
  bytes : i.bytes ≤ 65536
  pos : 0 < P.cellsOf e
theorem append_room {t u e tt : TypeId} {i : TypeInfo} {z : Value} (A : AppendOk P t u e i z) {Z : Nat → Prop} {es2 : List V} {cy : Value} {news : List Value} (hs : Src P w Z (P.cellsOf e) es2 cy news) {b o L cap : Nat} (hroom : L + es2.length ≤ cap)
    (hst : (storeCells (⟨b, o, none⟩ : Addr) news (L * P.cellsOf e)).run P w = .ok () (w.setCells b (o + L * P.cellsOf e) news)) :
    (Builtin.append_ #[t, u] tt #[.slice (some ⟨b, o, none⟩) L cap, cy]).run P w = .ok (.slice (some ⟨b, o, none⟩) (L + es2.length) cap) (w.setCells b (o + L * P.cellsOf e) news) := by
  have hf := hs.first es2.length (Nat.le_refl _) w rfl
  have hnl : news.length = es2.length * P.cellsOf e := by rw [← hs.pw.len, flat_len hs.cl]
  rw [List.take_of_length_le (by omega)] at hf
  have hst' : (storeCells ((⟨b, o, none⟩ : Addr).add (L * P.cellsOf e)) news).run P w = .ok () (w.setCells b (o + L * P.cellsOf e) news) := by
    have e2 : ∀ (l : List Value) (i : Nat), storeCells ((⟨b, o, none⟩ : Addr).add (L * P.cellsOf e)) l i = storeCells (⟨b, o, none⟩ : Addr) l (L * P.cellsOf e + i) := by
      intro l
      induction l with
      | nil => intro i; rfl
      | cons v l ih =>
        intro i
        simp only [storeCells, add_at]
        rw [Nat.add_assoc o]
        congr 1
        funext _
        have := ih (i + 1)
        simp only [add_at] at this
        rw [this]; rfl
    rw [e2 news 0, Nat.add_zero]; exact hst
  rcases noInt_desc A.hu with ⟨e', hd⟩ | hd <;> simp [Builtin.append_, Go.run_underlying A.ht, Go.run_underlying hd, sizeOf, typeInfo, A.hi, A.size, hs.len, hroom, hf, hst']
theorem append_none {t u e tt : TypeId} {i : TypeInfo} (ht : P.underlying t = some (.slice e)) (hu : noInt P u = true) (hi : P.info? e = some i) {Z : Nat → Prop} {cy : Value} {news : List Value} (hs : Src P w Z (P.cellsOf e) [] cy news) {ad : Option Addr} {L cap : Nat} (hroom : L ≤ cap) :
    (Builtin.append_ #[t, u] tt #[.slice ad L cap, cy]).run P w = .ok (.slice ad L cap) w := by
  have hf := hs.first 0 (Nat.le_refl _) w rfl
  simp only [Nat.zero_mul, List.take_zero] at hf
  have hl := hs.len w
  simp only [List.length_nil] at hl
  have hsz : i.size = P.cellsOf e := by simp [Program.cellsOf, hi]
  rcases noInt_desc hu with ⟨e', hd⟩ | hd <;> cases ad <;> simp [Builtin.append_, Go.run_underlying ht, Go.run_underlying hd, sizeOf, typeInfo, hi, hsz, hl, hroom, hf, storeCells]
theorem append_more {t u e tt : TypeId} {i : TypeInfo} {z : Value} (A : AppendOk P t u e i z) {Z : Nat → Prop} {es2 : List V} {cy : Value} {news : List Value} (hs : Src P w Z (P.cellsOf e) es2 cy news) {ad : Option Addr} {L cap : Nat} {olds : List Value}
    (hold : (Builtin.firstCells (P.cellsOf e) L (.slice ad L cap)).run P w.drew = .ok olds.toArray w.drew) (hmore : cap < L + es2.length) (hfit : L + es2.length ≤ 2147483648) :
    (Builtin.append_ #[t, u] tt #[.slice ad L cap, cy]).run P w = .ok (.slice (some ⟨w.heap.size, 0, none⟩) (L + es2.length) (grownCap w (L + es2.length) cap e))
      (w.drew.alloc (.cells (olds.toArray ++ news.toArray ++ Builtin.zeroCells z.cells (grownCap w (L + es2.length) cap e - (L + es2.length))) e)) := by
  have hf := hs.first es2.length (Nat.le_refl _) w.drew rfl
  have hnl : news.length = es2.length * P.cellsOf e := by rw [← hs.pw.len, flat_len hs.cl]
  rw [List.take_of_length_le (by omega)] at hf
  have hn : ¬ (L + es2.length ≤ cap) := by omega
  have hb : i.bytes ≤ 65536 := A.bytes
  have h48 : Builtin.nextslicecap (L + es2.length) cap * i.bytes ≤ 281474976710656 := growslice_fits hmore (by
    have := Nat.mul_le_mul hfit hb; omega)
  have h48' : ¬ (281474976710656 < Builtin.nextslicecap (L + es2.length) cap * i.bytes) := by omega
  have h63 : ¬ (((L + es2.length : Nat) : Int) > IntKind.i64.max) := by simp [IntKind.max, IntKind.signed, IntKind.bits]; omega
  have h63' : ¬ (9223372036854775807 < ((L : Int) + (es2.length : Int))) := by omega
  rcases noInt_desc A.hu with ⟨e', hd⟩ | hd <;> simp [Builtin.append_, Go.run_underlying A.ht, Go.run_underlying hd, sizeOf, typeInfo, zeroValue, A.hi, A.hz, A.size, hs.len, hn, h63, h63', h48', Question.forced, hf, hold, newRow, grownCap]
  all_goals (congr 2; apply Array.ext'; simp [List.append_assoc])
structure AppRun (P : Program) (w : World) (t u e tt : TypeId) (i : TypeInfo) (z : Value) (es2 : List V) (cy : Value) (news : List Value) : Prop where
  room : ∀ {b o L cap : Nat}, L + es2.length ≤ cap → L + es2.length ≤ 2147483648 → (storeCells (⟨b, o, none⟩ : Addr) news (L * P.cellsOf e)).run P w = .ok () (w.setCells b (o + L * P.cellsOf e) news) →
    (Builtin.append_ #[t, u] tt #[.slice (some ⟨b, o, none⟩) L cap, cy]).run P w = .ok (.slice (some ⟨b, o, none⟩) (L + es2.length) cap) (w.setCells b (o + L * P.cellsOf e) news)
  empty : es2 = [] → ∀ {ad : Option Addr} {L cap : Nat}, L ≤ cap → (Builtin.append_ #[t, u] tt #[.slice ad L cap, cy]).run P w = .ok (.slice ad L cap) w
  more : ∀ {ad : Option Addr} {L cap : Nat} {olds : List Value}, (Builtin.firstCells (P.cellsOf e) L (.slice ad L cap)).run P w.drew = .ok olds.toArray w.drew → cap < L + es2.length → L + es2.length ≤ 2147483648 →
    (Builtin.append_ #[t, u] tt #[.slice ad L cap, cy]).run P w = .ok (.slice (some ⟨w.heap.size, 0, none⟩) (L + es2.length) (grownCap w (L + es2.length) cap e))
      (w.drew.alloc (.cells (olds.toArray ++ news.toArray ++ Builtin.zeroCells z.cells (grownCap w (L + es2.length) cap e - (L + es2.length))) e))
theorem AppRun.ofSrc {t u e tt : TypeId} {i : TypeInfo} {z : Value} (A : AppendOk P t u e i z) {Z : Nat → Prop} {es2 : List V} {cy : Value} {news : List Value} (hs : Src P w Z (P.cellsOf e) es2 cy news) : AppRun P w t u e tt i z es2 cy news :=
  ⟨fun h1 _ h2 => append_room A hs h1 h2, fun he {ad L cap} h1 => by subst he; exact append_none A.ht A.hu A.hi hs h1, fun h1 h2 h3 => append_more A hs h1 h2 h3⟩
theorem HRel.appendGrow {cv : List Value} {t u u' e tt : TypeId} {es es2 : List V} {h : T} {ch cy : Value} {news : List Value} {i : TypeInfo} {z : Value} (R : HRel P w X sl cv h ch F) (A : AppendOk P t u' e i z) (B : AppRun P w t u e tt i z es2 cy news)
    (hscl : ∀ x ∈ es2, x.cells.length = P.cellsOf e) (hspw : PW w (zs w X F) (flat es2) news) (hfit : es.length + es2.length ≤ 2147483648)
    {ad : Option Addr} {L cap : Nat} {olds : List Value} (hL : L = es.length) (hmore : cap < L + es2.length) (hcl : ∀ x ∈ es, x.cells.length = P.cellsOf e) (hpw : PW w (zs w X F) (flat es) olds)
    (hold : (Builtin.firstCells (P.cellsOf e) L (.slice ad L cap)).run P w.drew = .ok olds.toArray w.drew) :
    ∃ c w' F', (Builtin.append_ #[t, u] tt #[.slice ad L cap, cy]).run P w = .ok c w' ∧ HRel P w' X sl cv (.own e (es ++ es2)) c F' ∧ To w F w' F' := by
  have hnl : news.length = es2.length * P.cellsOf e := by rw [← hspw.len, flat_len hscl]
  have hr := B.more hold hmore (by omega)
  have hge := grownCap_ge w (L + es2.length) cap e
  have hol : olds.length = L * P.cellsOf e := by rw [← hpw.len, flat_len hcl, hL]
  have hcl2 : ∀ x ∈ es ++ es2, x.cells.length = P.cellsOf e := fun x hx => (List.mem_append.1 hx).elim (hcl x) (hscl x)
  have hsz : (olds.toArray ++ news.toArray ++ Builtin.zeroCells z.cells (grownCap w (L + es2.length) cap e - (L + es2.length))).size = grownCap w (L + es2.length) cap e * P.cellsOf e := by
    simp only [Array.size_append, List.size_toArray, size_zeroCells, A.zsize, hol, hnl, ← Nat.add_mul]
    congr 1; omega
  obtain ⟨F1, R1, t1⟩ := R.swap (w' := w.drew.alloc (.cells (olds.toArray ++ news.toArray ++ Builtin.zeroCells z.cells (grownCap w (L + es2.length) cap e - (L + es2.length))) e)) (.own e (es ++ es2))
    (.slice (some ⟨w.heap.size, 0, none⟩) (es ++ es2).length (grownCap w (L + es2.length) cap e)) (fun b => b = w.heap.size) (Turns.drewAlloc _ _ _) (fun b hb => .inr (by omega)) (fun b hb => by subst hb; simp)
    (fun Zs Zx hs' hx _ => own_mk (heap_alloc_new w.drew _) (by rw [List.length_append]; omega) (by omega) A.pos (by simp) hcl2 (by
      rw [List.drop_zero, flat_app]
      have : (olds.toArray ++ news.toArray ++ Builtin.zeroCells z.cells (grownCap w (L + es2.length) cap e - (L + es2.length))).toList.take ((es ++ es2).length * P.cellsOf e) = olds ++ news := by
        simp only [Array.toList_append]
        rw [List.take_left']
        simp [hol, hnl, hL, Nat.add_mul]
      rw [this]
      exact (hpw.append hspw).mono hs' fun b hb => by
        show (w.heap.push _)[b]? = _
        rw [Array.getElem?_push, if_neg (by have := hb.1.1; omega)]) fun x => Iff.rfl)
  rw [show (es ++ es2).length = L + es2.length by rw [List.length_append, hL]] at R1
  exact ⟨_, _, F1, hr, R1, t1⟩
theorem HRel.append {cv : List Value} {ty t u u' e tt : TypeId} {es es2 : List V} {cx cy : Value} {news : List Value} {i : TypeInfo} {z : Value} (R : HRel P w X sl cv (.own ty es) cx F) (hty : ty = e ∨ (es = [] ∧ P.cellsOf ty = 0)) (A : AppendOk P t u' e i z) (B : AppRun P w t u e tt i z es2 cy news)
    (hscl : ∀ x ∈ es2, x.cells.length = P.cellsOf e) (hspw : PW w (zs w X F) (flat es2) news) (hfit : es.length + es2.length ≤ 2147483648) :
    ∃ c w' F', (Builtin.append_ #[t, u] tt #[cx, cy]).run P w = .ok c w' ∧ HRel P w' X sl cv (.own e (es ++ es2)) c F' ∧ To w F w' F' := by
  have hh := R.hand
  have hnl : news.length = es2.length * P.cellsOf e := by rw [← hspw.len, flat_len hscl]
  generalize hG : F sl.length = G at hh
  cases hh with
  | own0 me ty ad _ hF hn0 =>
    by_cases he : es2 = []
    · subst he
      have hr := B.empty rfl (ad := ad) (Nat.le_refl 0)
      obtain ⟨F1, R1, t1⟩ := R.swap (.own e ([] ++ [])) (.slice ad 0 0) (fun _ => False) (Turns.refl _ _) (fun _ h => h.elim) (fun _ h => h.elim) fun Zs Zx _ _ _ => .own0 none e ad _ (fun _ => id) fun h => by have := A.pos; omega
      exact ⟨_, _, F1, hr, R1, t1⟩
    · have : 0 < es2.length := List.length_pos_iff.2 he
      refine R.appendGrow (olds := []) A B hscl hspw hfit rfl (by simpa using this) (by simp) (by simpa [flat_nil] using PW.nil) ?_
      cases ad with
      | none => simp [Builtin.firstCells]
      | some x => simpa using run_firstCells_some (P := P) w.drew (P.cellsOf e) 0 x 0 0 [] (by simp) (by simp)
  | own me ty es b o cap vs fz _ hw hc hsz hpos hfz hcl h1 h hF =>
    have hte : ty = e := hty.elim id fun hh => by omega
    subst hte
    obtain ⟨hcl0, hpw⟩ := own_pw (Zx := zx w F) hc hsz hcl h1 h
    by_cases hroom : es.length + es2.length ≤ cap
    · by_cases hcap : cap = 0
      · have he2 : es2 = [] := List.eq_nil_of_length_eq_zero (by omega)
        subst he2
        have hr := B.empty rfl (ad := some ⟨b, o, none⟩) hc
        rw [List.append_nil]
        exact ⟨_, _, F, hr, R, To.refl _ _⟩
      · have hT : TRep P w (zs w X F) (zx w F) none (.own ty es) (.slice (some ⟨b, o, none⟩) es.length cap) G := by rw [← hG]; exact R.hand
        have hmul : es.length * P.cellsOf ty + es2.length * P.cellsOf ty ≤ cap * P.cellsOf ty := by rw [← Nat.add_mul]; exact Nat.mul_le_mul_right _ hroom
        have hcl2 : ∀ x ∈ es ++ es2, x.cells.length = P.cellsOf ty := fun x hx => (List.mem_append.1 hx).elim (hcl0 x) (hscl x)
        have hflen := flat_len hcl0
        obtain ⟨⟨cur, fz', hw', hle, hfz'⟩, hGb, hrep⟩ := own_write (k := es.length * P.cellsOf ty) (news := news) (vnews := flat es2) (es' := es ++ es2) hT hpos hcap (by omega) (Nat.le_refl _) hspw.len
          (by rw [flat_app]; simp only [splice]; rw [← hflen]; simp) hcl2 (by rw [List.length_append]; exact hroom)
        have hst := run_storeCells_cells (P := P) b o news (es.length * P.cellsOf ty) w (fun j hj => by
            rw [cell_row hw', Array.getElem?_eq_getElem (by omega)]; rfl) (fun j hj => by
            obtain ⟨lo, hi⟩ := fz'
            have := hfz' (o + es.length * P.cellsOf ty + j) (by omega) (by omega)
            simp only [World.frozen?, hw']
            rw [Bool.and_eq_false_iff]
            simp only [decide_eq_false_iff_not]
            rcases Classical.em (lo ≤ o + es.length * P.cellsOf ty + j) with h | h
            · exact .inr fun h2 => this ⟨h, h2⟩
            · exact .inl h) hspw.cell
        have hr := B.room hroom hfit hst
        have hb : ¬ zs w X F b := fun hz => hz.1.2 sl.length (by rw [hG]; exact (hGb b).2 rfl)
        obtain ⟨F1, R1, t1⟩ := R.swap (w' := w.setCells b (o + es.length * P.cellsOf ty) news) (.own ty (es ++ es2)) (.slice (some ⟨b, o, none⟩) (es ++ es2).length cap) G (setCells_turns b news _ w _ (by rw [hG]; exact (hGb b).2 rfl))
          (fun x hx => .inl (by rw [hG]; exact hx)) (fun x hx => by rw [setCells_size]; exact R.rel.lt sl.length x (by rw [hG]; exact hx)) (fun Zs Zx hs' hx _ => (hrep Zs Zx hspw hs' hb))
        rw [List.length_append] at R1
        exact ⟨_, _, F1, hr, R1, t1⟩
    · refine R.appendGrow (olds := (vs.toList.drop o).take (es.length * P.cellsOf ty)) A B hscl hspw hfit rfl (by omega) hcl0 hpw ?_
      have hmul : es.length * P.cellsOf ty ≤ cap * P.cellsOf ty := Nat.mul_le_mul_right _ hc
      refine run_firstCells_some (P := P) w.drew _ _ _ _ _ _ (by simp; omega) fun j v hj => ?_
      rw [add_at, World.cell?_drew, cell_row hw]
      obtain ⟨h1, _⟩ := drop_take_get hj
      simpa using h1
structure SrcM (P : Program) (w : World) (Z : Nat → Prop) (t u e : TypeId) (es : List V) (cy : Value) (news : List Value) : Prop where
  cl : ∀ x ∈ es, x.cells.length = P.cellsOf e
  pw : PW w Z (flat es) news
  run : ∀ {tt : TypeId} {i : TypeInfo} {z : Value}, AppendOk P t t e i z → AppRun P w t u e tt i z es cy news
  empty : ∀ {tt : TypeId} {i : TypeInfo}, P.info? e = some i → es = [] → ∀ {ad : Option Addr} {L cap : Nat}, L ≤ cap → (Builtin.append_ #[t, u] tt #[.slice ad L cap, cy]).run P w = .ok (.slice ad L cap) w
theorem SrcM.mono {Z Z' : Nat → Prop} {t u e : TypeId} {es : List V} {cy : Value} {news : List Value} (h : SrcM P w Z t u e es cy news) (hz : ∀ b, Z b → Z' b) : SrcM P w Z' t u e es cy news :=
  ⟨h.cl, h.pw.mono hz fun _ _ => rfl, h.run, h.empty⟩
theorem int_wrap {n : Int} (h0 : 0 ≤ n) (h1 : n ≤ 2147483648) : IntKind.i64.wrap n = n := by
  simp [IntKind.wrap, IntKind.bits, IntKind.signed]; omega
theorem store_add (b o L : Nat) (news : List Value) : storeCells ((⟨b, o, none⟩ : Addr).add L) news = storeCells (⟨b, o, none⟩ : Addr) news L := by
  have e2 : ∀ (l : List Value) (i : Nat), storeCells ((⟨b, o, none⟩ : Addr).add L) l i = storeCells (⟨b, o, none⟩ : Addr) l (L + i) := by
    intro l
    induction l with
    | nil => intro i; rfl
    | cons v l ih =>
      intro i
      simp only [storeCells, add_at]
      rw [Nat.add_assoc o]
      congr 1
      funext _
      have := ih (i + 1)
      simp only [add_at] at this
      rw [this]; rfl
  rw [e2 news 0, Nat.add_zero]
theorem AppRun.ofInt {t u e tt : TypeId} {i : TypeInfo} {z : Value} (A : AppendOk P t t e i z) {k kd : IntKind} (hu : P.underlying u = some (.int k)) {n : Int} (h0 : 0 ≤ n) (h1 : n ≤ 2147483648) (zv : V) :
    AppRun P w t u e tt i z (List.replicate n.toNat zv) (.int kd n) (Builtin.zeroCells z.cells n.toNat).toList := by
  have hw := int_wrap h0 h1
  have hneg : ¬ n < 0 := by omega
  have hb0 : i.bytes ≤ 65536 := A.bytes
  have hmul : n.toNat * i.bytes ≤ 2147483648 * 65536 := Nat.mul_le_mul (by omega) hb0
  have hcast : n * (i.bytes : Int) = ((n.toNat * i.bytes : Nat) : Int) := by
    rw [Int.natCast_mul, Int.toNat_of_nonneg h0]
  have hb : ¬ (281474976710656 < n * (i.bytes : Int)) := by rw [hcast]; omega
  have happ : ∀ w' : World, (if n.toNat * i.size = 0 then (pure #[] : Sem (Array Value)) else do pure (Builtin.zeroCells (← zeroValue e).cells n.toNat)).run P w' = .ok (Builtin.zeroCells z.cells n.toNat) w' := by
    intro w'
    split
    · rename_i h
      have : Builtin.zeroCells z.cells n.toNat = #[] := by simp [Builtin.zeroCells, A.zsize, ← A.size, h]
      rw [this]; rfl
    · simp [zeroValue, typeInfo, A.hi, A.hz]
  have hzv : ∀ w' : World, (zeroValue e).run P w' = .ok z w' := fun w' => by simp [zeroValue, typeInfo, A.hi, A.hz]
  have hze : n.toNat * P.cellsOf e = 0 → Builtin.zeroCells z.cells n.toNat = #[] := fun h => by simp [Builtin.zeroCells, A.zsize, h]
  refine ⟨fun {b o L cap} hroom hfit hst => ?_, fun he {ad L cap} hL => ?_, fun {ad L cap olds} hold hmore hfit => ?_⟩
  · rw [List.length_replicate] at hroom ⊢
    rw [← store_add] at hst
    simp [Builtin.append_, Go.run_underlying A.ht, Go.run_underlying hu, sizeOf, typeInfo, A.hi, A.size, asInt, asIntOf, hw, hneg, hb, hroom]
    split
    · rename_i h
      simp only [hze h] at hst ⊢
      simp [hst]
    · simp [hzv, hst]
  · have hn0 : n.toNat = 0 := by simpa using he
    have ha := happ w
    simp [Builtin.append_, Go.run_underlying A.ht, Go.run_underlying hu, sizeOf, typeInfo, A.hi, A.size, asInt, asIntOf, hw, hneg, hb, hn0, hL, storeCells]
    cases ad <;> rfl
  · rw [List.length_replicate] at hmore hfit ⊢
    have hn : ¬ (L + n.toNat ≤ cap) := by omega
    have h48 : Builtin.nextslicecap (L + n.toNat) cap * i.bytes ≤ 281474976710656 := growslice_fits hmore (by
      have := Nat.mul_le_mul hfit hb0; omega)
    have h48' : ¬ (281474976710656 < Builtin.nextslicecap (L + n.toNat) cap * i.bytes) := by omega
    have h63 : ¬ (((L + n.toNat : Nat) : Int) > IntKind.i64.max) := by simp [IntKind.max, IntKind.signed, IntKind.bits]; omega
    have h63' : ¬ (9223372036854775807 < ((L : Int) + (n.toNat : Int))) := by omega
    have h63'' : ¬ (9223372036854775807 < (L : Int) + max n 0) := by omega
    simp [Builtin.append_, Go.run_underlying A.ht, Go.run_underlying hu, sizeOf, typeInfo, zeroValue, A.hi, A.hz, A.size, asInt, asIntOf, hw, hneg, hb, hn, h63, h63', h63'', h48', Question.forced, hold, newRow, grownCap]
    intro h
    simp [hze h]
theorem src_runM (R : Sit P w X sl F a gv) {y : Operand} (hy : OkT a y) {t u e : TypeId} (ht : P.underlying t = some (.slice e)) {sz : Nat} {es : List V} (h : srcM P e u sl y = some (sz, es)) (hs : es = [] ∨ sz = P.cellsOf e) :
    ∃ news, SrcM P w (zs w X F) t u e es (a.eval y) news := by
  unfold srcM at h
  split at h
  · rename_i hu
    obtain ⟨news, hk⟩ := src_run R hy h hs
    exact ⟨news, hk.cl, hk.pw, fun A => AppRun.ofSrc ⟨A.ht, hu, A.hi, A.hz, A.size, A.zsize, A.bytes, A.pos⟩ hk, fun {tt i} hi he {ad L cap} hL => by subst he; exact append_none ht hu hi hk hL⟩
  · split at h
    · rename_i k hu
      split at h
      · rename_i kd n z hp hz
        split at h
        · rename_i hh
          cases h
          obtain ⟨zv, hz1, hz2⟩ := zeroV_rep hz
          have hlen := wellEl_len hh.2.2.1
          have hzs : zv.cells.size = P.cellsOf e := by have := (hz2 w (zs w X F)).len; simp at this; omega
          have hv : PRep w (zs w X F) (zx w F) (.int kd n) (a.eval y) := pv_val R hy hp
          have hcy : a.eval y = .int kd n := by generalize a.eval y = c at hv; cases hv; rfl
          rw [hcy]
          have hpw := zeros_pw (hz2 w (zs w X F)) (by omega) n.toNat
          refine ⟨(Builtin.zeroCells zv.cells n.toNat).toList, fun x hx => by rw [(List.mem_replicate.1 hx).2]; exact hlen, hpw, fun {tt i z} A => ?_, fun {tt i} hi he {ad L cap} hL => ?_⟩
          · obtain ⟨i2, hi2, hiz, _⟩ := zeroOf_info hz1
            have : i2 = _ := Option.some.inj (hi2.symm.trans A.hi)
            subst this
            have : zv = _ := Option.some.inj (hiz.symm.trans A.hz)
            subst this
            exact AppRun.ofInt A hu hh.1 hh.2.1 z
          · have hn0 : n.toNat = 0 := by simpa using he
            have hn : n = 0 := by omega
            subst hn
            have hw := int_wrap (n := 0) (by omega) (by omega)
            simp [Builtin.append_, Go.run_underlying ht, Go.run_underlying hu, sizeOf, typeInfo, hi, asInt, asIntOf, hw, hL, storeCells]
            cases ad <;> rfl
        · cases h
      · cases h
    · cases h
theorem op_append (R : Sit P w X sl F a gv) {x y : Operand} (hx : OkT a x) (hy : OkT a y) {t u e tt : TypeId} (ht : P.underlying t = some (.slice e)) {dst : Option Nat} {sl' : List S} (h : appendOp P e u sl x y dst = some sl') :
    Op1 P w X F (a.tmps.toList ++ gv) sl' dst (Builtin.append_ #[t, u] tt #[a.eval x, a.eval y]) := by
  unfold appendOp at h
  split at h
  · rename_i sz2 es2 hsrc
    split at h
    · rename_i hsz
      obtain ⟨news, hs⟩ := src_runM R hy ht hsrc hsz
      have ok : ∀ {n : Nat}, (n ≤ 2147483648 ∧ P.bytesOf e ≤ 65536 ∧ 0 < P.cellsOf e ∧ zeroOk P e = true) → ∃ i z, AppendOk P t t e i z := by
        rintro n ⟨_, h1, h2, h3⟩
        unfold zeroOk at h3
        split at h3
        · rename_i z hz
          obtain ⟨i, hi, hiz, hsize, hby⟩ := zeroOf_info hz
          exact ⟨i, z, ht, by simp [noInt, ht], hi, hiz, hsize, by simpa using h3, by omega, h2⟩
        · cases h3
      have fin : ∀ {ty : TypeId} {es : List V} {sl1 : List S} {F1 : Nat → Nat → Prop}, HRel P w X sl1 (a.tmps.toList ++ gv) (.own ty es) (a.eval x) F1 → To w F w F1 → (ty = e ∨ (es = [] ∧ P.cellsOf ty = 0)) →
          (if es.length + es2.length ≤ 2147483648 ∧ P.bytesOf e ≤ 65536 ∧ 0 < P.cellsOf e ∧ zeroOk P e = true then putD sl1 dst (.t (.own e (es ++ es2))) else none) = some sl' →
          Op1 P w X F (a.tmps.toList ++ gv) sl' dst (Builtin.append_ #[t, u] tt #[a.eval x, a.eval y]) := by
        intro ty es sl1 F1 R1 t1 hty h
        split at h
        · rename_i hh
          obtain ⟨i, z, A⟩ := ok hh
          have hs1 := hs.mono t1.zs
          obtain ⟨c, w', F2, hr, R2, t2⟩ := R1.append (tt := tt) hty A (hs1.run A) hs1.cl hs1.pw hh.1
          obtain ⟨F3, R3, t3⟩ := R2.putD h
          exact ⟨c, w', F3, hr, R3, (t1.trans t2).trans t3⟩
        · cases h
      simp only at h
      split at h
      · obtain ⟨F1, R1, t1⟩ := R.rel.give' (.own e []) (.slice none 0 0) (fun _ => False) (Turns.refl _ _) (fun _ h => h.elim) fun Zs Zx hz hx => .own0 none e none _ (fun _ => id) fun _ => rfl
        exact fin (ty := e) (es := []) R1 t1 (.inl rfl) h
      · rename_i tx
        have hcx := eval_tmp (hx tx rfl) gv
        split at h
        · rename_i ty es hsx
          split at h
          · rename_i hty
            obtain ⟨F1, R1, t1⟩ := R.rel.pick hsx hcx (by simp)
            exact fin R1 t1 hty h
          · cases h
        · rename_i p off len ex hsx
          split at h
          · rename_i ty es hz
            split at h
            · rename_i hty
              split at h
              · rename_i sl1 hp
                obtain ⟨F1, R1, t1⟩ := R.rel.giveDead
                obtain ⟨me, cz, G, hcz, hT, hsub, hGn, hput⟩ := R1.node2 hz
                obtain ⟨q, z, cz', hq, hz', hcz', hb⟩ := slotV (R.rel.slot tx _ _ hsx hcx) (by simp)
                cases hq
                rw [hz] at hz'; cases hz'
                rw [hcz] at hcz'; cases hcz'
                obtain ⟨G', hG', hsub'⟩ := own_sub hT hb
                have hlen : ∃ ad cap, cz = .slice ad es.length cap := by
                  cases hT with
                  | own0 _ _ ad => exact ⟨ad, 0, rfl⟩
                  | own _ _ _ b o cap => exact ⟨_, cap, rfl⟩
                obtain ⟨ad0, cap0, rfl⟩ := hlen
                obtain ⟨F2, R2, t2⟩ := hput w (.p (.lenO es.length)) (.own ty ((es.drop off).take len)) (a.eval (.tmp tx)) (fun _ => False) G' false sl1 hp (Turns.refl _ _) (fun _ h => h.elim) (fun x hx => .inl (.inl (hsub' x hx)))
                  (fun x hx => hx.elim False.elim fun hx => R1.rel.lt _ x (hsub x (hsub' x hx))) (fun _ h => h.elim) (fun Zs Zx hs' hx' _ => ⟨.p _ _ _ _ (.lenO _ _ _) fun _ => id, hG'.mono zs_zx hs' hx' fun _ _ => rfl⟩) (fun v hv => by cases hv; rfl) (by simp)
                exact fin R2 (t1.trans t2) (hty.imp id fun hh => ⟨by rw [hh.1]; simp, hh.2⟩) h
              · cases h
            · cases h
          · cases h
        · rename_i sn sz es hsx
          split at h
          · rename_i hh
            have hv : PRep w (zs w X F) (zx w F) (.sl sn true sz es) (a.eval (.tmp tx)) := slot_val R hsx hcx
            have hels : Els w (zs w X F) sz es (a.eval (.tmp tx)) := elems_val R (s := .t (.p (.sl sn true sz es))) hv rfl
            obtain ⟨olds0, ho0⟩ := src_els (P := P) hels
            have ho : ∃ olds, Src P w (zs w X F) (P.cellsOf e) es (a.eval (.tmp tx)) olds := by
              rcases hh.1 with rfl | rfl
              · exact ⟨[], ho0.nil⟩
              · exact ⟨_, ho0⟩
            obtain ⟨olds, ho⟩ := ho
            have hsl : ∃ ad cap, a.eval (.tmp tx) = .slice ad es.length cap ∧ es.length ≤ cap ∧ cap = es.length := by
              generalize a.eval (.tmp tx) = c at hv
              cases hv with
              | sl0 _ _ _ ad cap he => exact ⟨ad, cap, rfl, Nat.zero_le _, by simpa using he rfl⟩
              | sl _ _ _ _ b off cap he hc => exact ⟨_, cap, rfl, hc, he rfl⟩
            obtain ⟨ad, cap, hcx', hLc, hex⟩ := hsl
            have hinfo : ∃ i, P.info? e = some i := by
              cases hi : P.info? e with
              | some i => exact ⟨i, rfl⟩
              | none => have := hh.2; simp [Program.cellsOf, hi] at this
            obtain ⟨ie, hie⟩ := hinfo
            split at h
            · rename_i he2
              subst he2
              obtain ⟨F1, R1, t1⟩ := give_pure R.rel hv h
              refine ⟨_, w, F1, ?_, R1, t1⟩
              rw [hcx']
              exact hs.empty hie rfl hLc
            · rename_i he2
              split at h
              · rename_i hok
                obtain ⟨i, z, A⟩ := ok hok
                obtain ⟨F1, R1, t1⟩ := R.rel.giveDead
                have hlen2 : 0 < es2.length := List.length_pos_iff.2 he2
                have hf := ho.first es.length (Nat.le_refl _) w.drew rfl
                have hol : olds.length = es.length * P.cellsOf e := by rw [← ho.pw.len, flat_len ho.cl]
                rw [List.take_of_length_le (by omega), hcx'] at hf
                obtain ⟨c, w', F2, hr, R2, t2⟩ := R1.appendGrow (tt := tt) (cap := cap) (es := es) A ((hs.mono t1.zs).run A) (hs.mono t1.zs).cl (hs.mono t1.zs).pw hok.1 rfl (by omega) ho.cl (ho.pw.mono t1.zs fun _ _ => rfl) hf
                obtain ⟨F3, R3, t3⟩ := R2.putD h
                rw [hcx']
                exact ⟨c, w', F3, hr, R3, (t1.trans t2).trans t3⟩
              · cases h
          · cases h
        · cases h
      · cases h
    · cases h
  · cases h
theorem op_appendF (R : Sit P w X sl F a gv) {x y : Operand} (hx : OkT a x) (hy : OkT a y) {t u e tt : TypeId} (ht : P.underlying t = some (.slice e)) (hu : noInt P u = true) {dst : Option Nat} {sl' : List S} (h : appendF P e sl x y dst = some sl') :
    Op1 P w X F (a.tmps.toList ++ gv) sl' dst (Builtin.append_ #[t, u] tt #[a.eval x, a.eval y]) := by
  unfold appendF at h
  split at h
  · rename_i sz2 es2 hsrc
    split at h
    · rename_i hsz
      obtain ⟨news, hs⟩ := src_run R hy hsrc hsz
      have ok : ∀ {n : Nat}, (n ≤ 2147483648 ∧ P.bytesOf e ≤ 65536 ∧ 0 < P.cellsOf e ∧ zeroOk P e = true) → ∃ i z, AppendOk P t u e i z := by
        rintro n ⟨_, h1, h2, h3⟩
        unfold zeroOk at h3
        split at h3
        · rename_i z hz
          obtain ⟨i, hi, hiz, hsize, hby⟩ := zeroOf_info hz
          exact ⟨i, z, ht, hu, hi, hiz, hsize, by simpa using h3, by omega, h2⟩
        · cases h3
      split at h
      · rename_i tx
        have hcx := eval_tmp (hx tx rfl) gv
        split at h
        · rename_i sz es hsx
          split at h
          · rename_i hh0
            obtain ⟨hh, hok⟩ := hh0
            have hv : PRep w (zs w X F) (zx w F) (.sl false true sz es) (a.eval (.tmp tx)) := slot_val R hsx hcx
            have hels : Els w (zs w X F) sz es (a.eval (.tmp tx)) := elems_val R (s := .t (.p (.sl false true sz es))) hv rfl
            obtain ⟨olds0, ho0⟩ := src_els (P := P) hels
            have ho : ∃ olds, Src P w (zs w X F) (P.cellsOf e) es (a.eval (.tmp tx)) olds := by
              rcases hh.1 with rfl | rfl
              · exact ⟨[], ho0.nil⟩
              · exact ⟨_, ho0⟩
            obtain ⟨olds, ho⟩ := ho
            have hsl : ∃ ad cap, a.eval (.tmp tx) = .slice ad es.length cap ∧ es.length ≤ cap ∧ cap = es.length := by
              generalize a.eval (.tmp tx) = c at hv
              cases hv with
              | sl0 _ _ _ ad cap he => exact ⟨ad, cap, rfl, Nat.zero_le _, by simpa using he rfl⟩
              | sl _ _ _ _ b off cap he hc => exact ⟨_, cap, rfl, hc, he rfl⟩
            obtain ⟨ad, cap, hcx', hLc, hex⟩ := hsl
            obtain ⟨i, z, A⟩ := ok hok
            by_cases he2 : es2 = []
            · subst he2
              have hv2 : PRep w (zs w X F) (zx w F) (.sl false false (P.cellsOf e) (es ++ [])) (a.eval (.tmp tx)) := by
                rw [List.append_nil]
                generalize a.eval (.tmp tx) = c at hv
                cases hv with
                | sl0 _ _ _ ad cap he => exact .sl0 _ _ _ ad cap (by simp)
                | sl _ _ _ _ b off cap he hc hz hcl h1 hd h =>
                  rcases hh.1 with rfl | hsz2
                  · have := PRep.sl0 (w := w) (Zs := zs w X F) (Zx := zx w F) false false (P.cellsOf e) (some ⟨b, off, none⟩) cap (by simp)
                    exact this
                  · exact .sl _ _ _ _ b off cap (by simp) hc hz (hsz2 ▸ hcl) h1 (hsz2 ▸ hd) (hsz2 ▸ h)
              obtain ⟨F1, R1, t1⟩ := give_pure R.rel hv2 h
              refine ⟨_, w, F1, ?_, R1, t1⟩
              rw [hcx']
              exact append_none ht hu A.hi hs hLc
            · obtain ⟨F1, R1, t1⟩ := R.rel.giveDead
              have hlen2 : 0 < es2.length := List.length_pos_iff.2 he2
              have hf := ho.first es.length (Nat.le_refl _) w.drew rfl
              have hol : olds.length = es.length * P.cellsOf e := by rw [← ho.pw.len, flat_len ho.cl]
              rw [List.take_of_length_le (by omega), hcx'] at hf
              obtain ⟨c, w', F2, hr, R2, t2⟩ := R1.appendGrow (tt := tt) (cap := cap) (es := es) A (AppRun.ofSrc A (hs.mono t1.zs)) (hs.mono t1.zs).cl (hs.mono t1.zs).pw hok.1 rfl (by omega) ho.cl (ho.pw.mono t1.zs fun _ _ => rfl) hf
              obtain ⟨F3, R3, t3⟩ := R2.freezeHand
              obtain ⟨F4, R4, t4⟩ := R3.putD h
              rw [hcx']
              exact ⟨c, w', F4, hr, R4, ((t1.trans t2).trans t3).trans t4⟩
          · cases h
        · cases h
      · cases h
    · cases h
  · cases h
end
end Go.Proofs.Ytffofdfikmpanaa.A
namespace Go.Proofs.Ytffofdfikmpanaa.A
set_option linter.unusedVariables false
set_option linter.unusedSimpArgs false
section
variable {P : Program} {X : Nat → Prop} {w : World} {sl : List S} {F : Nat → Nat → Prop} {a : Act} {gv : List Value}
theorem Src.first0 {Z : Nat → Prop} {sz : Nat} {es : List V} {cy : Value} {news : List Value} (h : Src P w Z sz es cy news) (sz' : Nat) (w' : World) : (Builtin.firstCells sz' 0 cy).run P w' = .ok #[] w' := by
  have hl := h.len w
  cases cy with
  | slice ad n cap =>
    cases ad with
    | none => simp [Builtin.firstCells]
    | some x => simpa using run_firstCells_some (P := P) w' sz' 0 x n cap [] (by simp) (by simp)
  | string s => simp [Builtin.firstCells]
  | _ => simp [Builtin.lenOf] at hl
theorem Rel.sameN {cv : List Value} (R : Rel P w X sl cv F) {p : Pl} {y : T} {sl' : List S} (hz : slAt sl p = some y) (hone : ∀ v, y = .p v → v.one = true) (hlike : y.like y) (hp : putN sl p y true = some sl') : ∃ F', Rel P w X sl' cv F' ∧ To w F w F' := by
  obtain ⟨F1, R1, t1⟩ := R.giveDead
  obtain ⟨me, cz, G, hcz, hT, hsub, hGn, hput⟩ := R1.node2 hz
  obtain ⟨F2, R2, t2⟩ := hput w y .dead undef G (fun _ => False) true sl' hp (Turns.refl _ _) (fun b hb => .inl (.inl hb)) (fun _ h => h.elim) (fun b hb => R1.rel.lt _ b (hsub b (hb.elim id False.elim))) (fun _ _ h => h)
    (fun Zs Zx hs hx hf => ⟨hT.mono zs_zx hs hx fun _ _ => rfl, .dead _ _ _ fun _ => id⟩) hone (fun _ => hlike)
  obtain ⟨F3, R3, t3⟩ := R2.base
  exact ⟨F3, R3, (t1.trans t2).trans t3⟩
theorem copy_none {t u e tt : TypeId} {Z : Nat → Prop} {sz : Nat} {es2 : List V} {cy : Value} {news : List Value} (ht : P.underlying t = some (.slice e)) (hp : 0 < P.cellsOf e) (hs : Src P w Z sz es2 cy news) {ad : Option Addr} {L cap : Nat} (h0 : min L es2.length = 0) :
    (Builtin.copy_ #[t, u] tt #[.slice ad L cap, cy]).run P w = .ok (goInt 0) w := by
  have hn : Nat.min es2.length L = 0 := by show min es2.length L = 0; omega
  cases ad <;> simp [Builtin.copy_, Go.run_underlying ht, hs.len, hn, run_sizeOf hp, hs.first0, storeCells]
theorem copy_some {t u e tt : TypeId} {Z : Nat → Prop} {es2 : List V} {cy : Value} {news : List Value} (ht : P.underlying t = some (.slice e)) (hp : 0 < P.cellsOf e) (hs : Src P w Z (P.cellsOf e) es2 cy news) {b o L cap n : Nat} (hn : n = min L es2.length) {w' : World}
    (hst : (storeCells (⟨b, o, none⟩ : Addr) (news.take (n * P.cellsOf e))).run P w = .ok () w') :
    (Builtin.copy_ #[t, u] tt #[.slice (some ⟨b, o, none⟩) L cap, cy]).run P w = .ok (goInt n) w' := by
  have hn' : Nat.min es2.length L = n := by show min es2.length L = n; omega
  have hf := hs.first n (by omega) w rfl
  simp [Builtin.copy_, Go.run_underlying ht, hs.len, hn', run_sizeOf hp, hf, hst]
theorem run_cells {b o : Nat} {cur : Array Value} {ty : TypeId} {fz : Nat × Nat} {news : List Value} (hw : w.heap[b]? = some (.cells cur ty fz)) (hle : o + news.length ≤ cur.size) (hfz : ∀ q, o ≤ q → q < o + news.length → ¬ (fz.1 ≤ q ∧ q < fz.2)) (h1 : ∀ v ∈ news, v.oneCell' = true) :
    (storeCells (⟨b, o, none⟩ : Addr) news).run P w = .ok () (w.setCells b o news) := by
  have := run_storeCells_cells (P := P) b o news 0 w (fun j hj => by
      rw [Nat.add_zero, cell_row hw, Array.getElem?_eq_getElem (by omega)]; rfl) (fun j hj => by
      obtain ⟨lo, hi⟩ := fz
      have := hfz (o + j) (by omega) (by omega)
      simp only [World.frozen?, hw, Nat.add_zero]
      rw [Bool.and_eq_false_iff]
      simp only [decide_eq_false_iff_not]
      rcases Classical.em (lo ≤ o + j) with h | h
      · exact .inr fun h2 => this ⟨h, h2⟩
      · exact .inl h) h1
  simpa using this
theorem flat_ones : ∀ {es : List V}, (∀ e ∈ es, e.one = true) → flat es = es
  | [], _ => rfl
  | e :: es, h => by
    have h1 := h e (by simp)
    rw [flat_cons, flat_ones fun x hx => h x (List.mem_cons_of_mem e hx)]
    have : e.cells = [e] := by cases e <;> simp_all [V.one, V.cells]
    rw [this]; rfl
theorem op_copy (R : Sit P w X sl F a gv) {x y : Operand} (hx : OkT a x) (hy : OkT a y) {t u e tt : TypeId} (ht : P.underlying t = some (.slice e)) {dst : Option Nat} {sl' : List S} (h : copyOp P e sl x y dst = some sl') :
    Op1 P w X F (a.tmps.toList ++ gv) sl' dst (Builtin.copy_ #[t, u] tt #[a.eval x, a.eval y]) := by
  have num : ∀ {sl1 : List S} {F1 : Nat → Nat → Prop} {w1 : World} {n : Nat}, Rel P w1 X sl1 (a.tmps.toList ++ gv) F1 → putD sl1 dst (.v (.int .i64 (n : Nat))) = some sl' → ∃ F', Rel P w1 X sl' (setv (a.tmps.toList ++ gv) dst (goInt n)) F' ∧ To w1 F1 w1 F' :=
    fun R1 h => give_pure R1 (.int .i64 _) h
  unfold copyOp at h
  split at h
  · rename_i sz2 es2 hsrc
    split at h
    · rename_i p off len ex hrd
      split at h
      · rename_i ty es hz
        split at h
        · rename_i hh
          obtain ⟨hsz, hpe⟩ := hh
          split at h
          · rename_i sl1 hp
            obtain ⟨q, z, cz, hq, hz', hcz, hb⟩ := rd_val R hx hrd
            cases hq
            rw [hz] at hz'; cases hz'
            obtain ⟨ty', es', ad, L, cap, ad', cap', hee, rfl, hol, hcx, hlc, hoc, _, hadr⟩ := hb
            cases hee
            rw [hcx]
            by_cases h0 : min len es2.length = 0
            · obtain ⟨news, hs⟩ := src_run R hy hsrc (sz' := sz2) (.inr rfl)
              have hr := copy_none (tt := tt) (u := u) ht hpe hs (ad := ad') (cap := cap') h0
              rw [h0] at hp h
              simp only [List.take_zero, List.append_nil, Nat.add_zero, List.take_append_drop] at hp
              obtain ⟨F1, R1, t1⟩ := R.rel.sameN hz (by simp) ⟨rfl, rfl⟩ hp
              obtain ⟨F2, R2, t2⟩ := num R1 h
              exact ⟨_, w, F2, hr, R2, t1.trans t2⟩
            · obtain ⟨hs1, hs2⟩ := hsz.resolve_left h0
              obtain ⟨news, hs⟩ := src_run R hy hsrc (sz' := P.cellsOf e) (.inr (hs1.trans hs2))
              have hcap' : cap' ≠ 0 := by omega
              rcases hadr with ⟨hadr, _⟩ | ⟨b, o, rfl, rfl⟩
              · exact absurd hadr hcap'
              have hcl : ∀ x ∈ es, x.cells.length = P.cellsOf ty := by
                obtain ⟨me, G, hT, _⟩ := R.rel.node hz hcz
                cases hT with
                | own0 => simp
                | own me ty es b off cap vs fz F hw hc hsz hpos hfz hcl h1 h hF => intro x hx; obtain ⟨i, hi⟩ := List.getElem?_of_mem hx; exact hcl i x hi
              generalize hn : min len es2.length = n at hp h h0
              have hnl : (es2.take n).length = n := by simp; omega
              have hclt : ∀ x ∈ es2.take n, x.cells.length = P.cellsOf ty := fun x hx => by rw [hs2]; exact hs.cl x (List.mem_of_mem_take hx)
              have hpw := hs.pw.take (n * P.cellsOf e)
              rw [← flat_take hs.cl] at hpw
              have hnews : (news.take (n * P.cellsOf e)).length = n * P.cellsOf ty := by rw [← hpw.len, flat_len hclt, hnl]
              have hmul : off * P.cellsOf ty + n * P.cellsOf ty ≤ es.length * P.cellsOf ty := by rw [← Nat.add_mul]; exact Nat.mul_le_mul_right _ (by omega)
              have hcl' : ∀ x ∈ es.take off ++ es2.take n ++ es.drop (off + n), x.cells.length = P.cellsOf ty := fun x hx => by
                rcases List.mem_append.1 hx with hx | hx
                · exact (List.mem_append.1 hx).elim (fun hx => hcl x (List.mem_of_mem_take hx)) (hclt x)
                · exact hcl x (List.mem_of_mem_drop hx)
              obtain ⟨⟨cur, fz, g1, g2, g3⟩, F1, R1, t1⟩ := R.rel.writeOwn (k := off * P.cellsOf ty) (es' := es.take off ++ es2.take n ++ es.drop (off + n)) hz hcz (by omega) (by omega) hpw (by rw [hnews]; exact hmul)
                (by
                  rw [flat_app, flat_app, flat_take hcl, flat_drop hcl]
                  simp only [splice]
                  rw [flat_len hclt, hnl, Nat.add_mul]) hcl' (by simp; omega) hp
              have hr := copy_some (tt := tt) (u := u) (w := w) (L := len) (cap := cap') ht hpe hs hn.symm (run_cells g1 g2 g3 hpw.cell)
              obtain ⟨F2, R2, t2⟩ := num R1 h
              exact ⟨_, _, F2, hr, R2, t1.trans t2⟩
          · cases h
        · cases h
      · cases h
    · rename_i p j len hrd
      split at h
      · rename_i ty cs hz
        split at h
        · rename_i hh
          obtain ⟨hsz, hpe, hall⟩ := hh
          split at h
          · rename_i sl1 hp
            obtain ⟨q, z, cz, hq, hz', hcz, hb⟩ := rd_val R hx hrd
            cases hq
            rw [hz] at hz'; cases hz'
            obtain ⟨ty', cs', b, ad, cap, hee, rfl, hcx, hlc, hjc, hadr⟩ := hb
            cases hee
            rw [hcx]
            by_cases h0 : min len es2.length = 0
            · obtain ⟨news, hs⟩ := src_run R hy hsrc (sz' := sz2) (.inr rfl)
              have hr := copy_none (tt := tt) (u := u) ht (by omega) hs (ad := ad) (cap := cap) h0
              rw [h0] at hp h
              simp only [List.take_zero, List.map_nil, List.append_nil, Nat.add_zero, List.take_append_drop] at hp
              obtain ⟨F1, R1, t1⟩ := R.rel.sameN hz (by simp) ⟨rfl, rfl⟩ hp
              obtain ⟨F2, R2, t2⟩ := num R1 h
              exact ⟨_, w, F2, hr, R2, t1.trans t2⟩
            · obtain ⟨news, hs⟩ := src_run R hy hsrc (sz' := P.cellsOf e) (.inr (by rw [hpe]; exact hsz.resolve_left h0))
              have hcap : cap ≠ 0 := by omega
              have had : ad = some ⟨b, j, none⟩ := hadr.resolve_left hcap
              subst had
              generalize hn : min len es2.length = n at hp h h0
              have hnl : (es2.take n).length = n := by simp; omega
              have hone : ∀ v ∈ es2.take n, v.one = true := fun v hv => List.all_eq_true.1 hall v (List.mem_of_mem_take hv)
              have hpw := hs.pw.take (n * P.cellsOf e)
              rw [← flat_take hs.cl, flat_ones hone] at hpw
              have hnews : (news.take (n * P.cellsOf e)).length = n := by rw [← hpw.len, hnl]
              obtain ⟨F0, R0, t0⟩ := R.rel.giveDead
              obtain ⟨⟨cur, g1, g2⟩, g3, F1, R1, t1⟩ := R0.storeOpt (j := j) (ts := (es2.take n).map .p) (vals := news.take (n * P.cellsOf e)) (Gt := fun _ _ => False) hz hcz (by rw [List.length_map, hnl, hnews]) (by rw [List.length_map, hnl]; omega)
                (by rw [List.all_eq_true]; intro y hy; obtain ⟨v, hv, rfl⟩ := List.mem_map.1 hy; exact hone v hv)
                (fun w' Zs Zx hs hx hw i y d hy hd => by
                  simp only [List.getElem?_map, Option.map_eq_some_iff] at hy
                  obtain ⟨v, hv, rfl⟩ := hy
                  exact .p _ v d _ ((hpw.rep i v d hv hd).mono (fun _ h => h) (fun b hb => hs b (t0.zs b hb)) (fun b hb => hx b (zs_zx b (t0.zs b hb))) fun b hb => hw b (.inr (zs_zx b (t0.zs b hb)))) fun _ => id) (fun _ _ _ h => h.elim) (fun _ _ _ _ _ h => h.elim)
                (by rw [List.length_map, hnl]; exact hp)
              have hr := copy_some (tt := tt) (u := u) (w := w) (L := len) (cap := cap) ht (by omega) hs hn.symm (run_cells g1 g2 (fun q _ _ hh => by simp at hh) g3)
              obtain ⟨F2, R2, t2⟩ := num R1 h
              exact ⟨_, _, F2, hr, R2, (t0.trans t1).trans t2⟩
          · cases h
        · cases h
      · cases h
    · cases h
  · cases h
theorem PRep.worldEq {w' : World} {Zs Zx : Nat → Prop} {v : V} {c : Value} (h : PRep w Zs Zx v c) (hw : ∀ b o, w'.cell? ⟨b, o, none⟩ = w.cell? ⟨b, o, none⟩) : PRep w' Zs Zx v c := by
  induction h with
  | bool b => exact .bool b
  | int k n => exact .int k n
  | str s => exact .str s
  | nilp => exact .nilp
  | anyp a => exact .anyp a
  | nilf => exact .nilf
  | nili => exact .nili
  | lenO n a cap => exact .lenO n a cap
  | agg cs vs hl h1 h ih => exact .agg cs vs hl h1 ih
  | sl0 snap exact sz a cap he => exact .sl0 snap exact sz a cap he
  | sl snap exact sz es b off cap he hc hz hcl h1 hd h ih => exact .sl snap exact sz es b off cap he hc hz hcl h1 (fun i j e v k1 k2 => by rw [hw]; exact hd i j e v k1 k2) fun i j e v c k1 k2 k3 => ih i j e v c k1 k2 (by rw [hw] at k3; exact k3)
  | ref snap cs b off hz h1 hd h ih => exact .ref snap cs b off hz h1 (fun j v k1 => by rw [hw]; exact hd j v k1) fun j v c k1 k2 => ih j v c k1 (by rw [hw] at k2; exact k2)
  | fn snap f caps vs hl h ih => exact .fn snap f caps vs hl ih
  | ifc t v c h ih => exact .ifc t v c ih
theorem cell_freeze (w : World) (a : Addr) (n : Nat) (x : Addr) : (w.freeze a n).cell? x = w.cell? x := by
  unfold World.freeze
  by_cases h0 : n = 0
  · rw [if_pos h0]
  · rw [if_neg h0]
    simp only [World.cell?, Array.getElem?_modify]
    by_cases he : a.block = x.block
    · rw [if_pos he]
      cases w.heap[x.block]? with
      | none => rfl
      | some o => cases o <;> rfl
    · rw [if_neg he]
theorem freeze_turns (w : World) (a : Addr) (n : Nat) (O : Nat → Prop) (hO : O a.block) : Turns w (w.freeze a n) O := by
  unfold World.freeze
  split
  · exact Turns.refl _ _
  · exact ⟨rfl, rfl, rfl, by simp, fun b hb hn => by
      simp only [Array.getElem?_modify]
      rw [if_neg (fun e => hn (by rw [← e]; exact hO))]⟩
theorem lies_at (P : Program) {e : TypeId} (hc : P.cellsOf e = 1) (count off n : Nat) (hn : off + n ≤ count) : liesAt P P.depth e count off e n = true := by
  have hd : P.depth = (2 * (P.types.size + Made.depth) + 1) + 1 := rfl
  rw [hd]
  simp only [liesAt, Bool.or_eq_true]
  left
  rw [hd]
  simp [rowAt, hc, hn, sameLayout, Nat.mod_one]
theorem run_loadBytes_at : ∀ (l : List UInt8) (a : Addr) (acc : ByteArray), (∀ j x, l[j]? = some x → ∃ m, w.cell? (a.add j) = some (.int .u8 m) ∧ x = UInt8.ofNat m.toNat) →
    (loadBytes a acc l.length).run P w = .ok ⟨acc.data ++ l.toArray⟩ w
  | [], a, acc, _ => by simp [loadBytes]
  | x :: l, a, acc, h => by
    obtain ⟨m, hm, hx⟩ := h 0 x rfl
    have h0 : w.cell? a = some (.int .u8 m) := by simpa [Addr.add] using hm
    have ih := run_loadBytes_at l (a.add 1) (acc.push x) (fun j y hy => by
      have := h (j + 1) y (by simpa using hy)
      have e : (a.add 1).add j = a.add (j + 1) := by
        unfold Addr.add
        by_cases hj : j = 0
        · subst hj; simp
        · simp [hj]; omega
      rw [e]; exact this)
    have hx' : m.toNat.toUInt8 = x := by rw [hx]
    simp only [List.length_cons, loadBytes, Sem.run_bind, run_load, h0, Result.andThen, hx']
    rw [ih]
    congr 1
    apply ByteArray.ext
    simp [ByteArray.push]
theorem run_unsafeString_at (pt it ty e : TypeId) (hp : P.underlying pt = some (.pointer e)) (hc : P.cellsOf e = 1) (b o cells : Nat) (hsh : w.shape? b = some (e, cells)) (l : List UInt8) (h0 : l ≠ []) (hn : o + l.length ≤ cells) (h63 : l.length ≤ 9223372036854775807)
    (hcell : ∀ j x, l[j]? = some x → ∃ m, w.cell? ((⟨b, o, none⟩ : Addr).add j) = some (.int .u8 m) ∧ x = UInt8.ofNat m.toNat) :
    (Builtin.unsafeString_ #[pt, it] ty #[.pointer (some ⟨b, o, none⟩), .int .i64 l.length]).run P w = .ok (.string ⟨l.toArray⟩) (w.freeze ⟨b, o, none⟩ l.length) := by
  have hl : l.length ≠ 0 := by simpa using h0
  have hlb := run_loadBytes_at (P := P) (w := w) l ⟨b, o, none⟩ .empty hcell
  have hlies := lies_at P hc (cells / P.cellsOf e) o l.length (by rw [hc]; simpa using hn)
  have h63' : ¬ (9223372036854775807 : Int) < (l.length : Int) := by omega
  have hdef : Builtin.unsafeString_ #[pt, it] ty #[.pointer (some ⟨b, o, none⟩), .int .i64 l.length] =
      (do
        let n ← asInt (.int .i64 l.length)
        if n < 0 then runtimePanic (.error "unsafe.String: len out of range")
        if n > IntKind.i64.max then unsupported (.unsafePointer "String: a length above the largest int")
        if n = 0 then pure (.string .empty)
        else if ← variablesAt ⟨b, o, none⟩ (← elemOf pt) n.toNat then do
          let s ← loadBytes ⟨b, o, none⟩ .empty n.toNat
          freeze ⟨b, o, none⟩ n.toNat
          pure (.string s)
        else unsupported (.unsafePointer "String: not so many bytes at ptr")) := rfl
  rw [hdef]
  have hmax : IntKind.i64.max = 9223372036854775807 := rfl
  have hneg : ¬ (l.length : Int) < 0 := by omega
  simp [asInt, asIntOf, hmax, h63', hneg, hl, variablesAt, hsh, elemOf, Go.run_underlying hp, hlies, hlb]
theorem op_unsafeString (R : Sit P w X sl F a gv) {x : Operand} (hx : OkT a x) {p : Pl} {n : Int} {ty pt it tt : TypeId} {es : List V} {l : List UInt8} {sl1 sl' : List S} {dst : Option Nat} (hrd : rd sl x = some (.bpt p 0 0)) (hz : slAt sl p = some (.own ty es)) (hpt : P.underlying pt = some (.pointer ty))
    (h0 : 0 < n) (h63 : n ≤ 9223372036854775807) (hn : n.toNat ≤ es.length) (hc : P.cellsOf ty = 1) (hl : unbytes (es.take n.toNat) = some l) (hp : putN sl p (.p (.sl false false (P.cellsOf ty) es)) false = some sl1) (h : putD sl1 dst (.v (.str l)) = some sl') :
    Op1 P w X F (a.tmps.toList ++ gv) sl' dst (Builtin.unsafeString_ #[pt, it] tt #[a.eval x, .int .i64 n]) := by
  obtain ⟨q, z, cz, hq, hz', hcz, hb⟩ := rd_val R hx hrd
  cases hq
  rw [hz] at hz'; cases hz'
  rcases hb with ⟨_, _, b, o, L, cap, hee, rfl, hi, hj, hcx⟩ | ⟨_, _, _, hee, _⟩
  · cases hee
    obtain ⟨F1, R1, t1⟩ := R.rel.giveDead
    obtain ⟨me, cz', G, hcz', hT, hsub, hGn, hput⟩ := R1.node2 hz
    rw [hcz] at hcz'; cases hcz'
    have hT' := hT
    cases hT with
    | own0 => simp at hi
    | own me ty es b o cap vs fz _ hw hcc hsz hpos hfz hcl h1 hrep hF =>
      obtain ⟨hul, hug⟩ := unbytes_get hl
      have hll : l.length = n.toNat := by rw [← hul]; simp; omega
      have hcell : ∀ j x, l[j]? = some x → ∃ m, w.cell? ((⟨b, o, none⟩ : Addr).add j) = some (.int .u8 m) ∧ x = UInt8.ofNat m.toNat := by
        intro j x hjx
        obtain ⟨m, hm, hbm⟩ := hug j x hjx
        have hm' : es[j]? = some (.int .u8 m) := by
          rw [List.getElem?_take] at hm
          split at hm
          · exact hm
          · cases hm
        have hjl : j < es.length := (List.getElem?_eq_some_iff.1 hm').1
        rw [hc] at hsz
        have hjs : o + j < vs.size := by omega
        have hv := hrep j 0 _ (.int .u8 m) vs[o + j] hm' rfl (by rw [hc]; simp [Array.getElem?_eq_getElem hjs])
        rw [add_at, cell_row hw, Array.getElem?_eq_getElem hjs]
        generalize vs[o + j] = c at hv
        cases hv
        exact ⟨m, rfl, hbm⟩
      have hne : l ≠ [] := by intro e; subst e; simp at hll; omega
      have hn' : (n : Int) = ((l.length : Nat) : Int) := by omega
      rw [hc, Nat.mul_one] at hsz
      have hr := run_unsafeString_at (P := P) (w := w) pt it tt ty hpt hc b o vs.size (shape_row hw) l hne (by omega) (by omega) hcell
      have hGb : G b := (hF b).2 rfl
      obtain ⟨F2, R2, t2⟩ := hput (w.freeze ⟨b, o, none⟩ l.length) (.p (.sl false false (P.cellsOf ty) es)) .dead undef (fun _ => False) (fun _ => False) false sl1 hp (freeze_turns w ⟨b, o, none⟩ _ _ (.inl hGb)) (fun _ h => h.elim) (fun _ h => h.elim)
        (fun _ h => h.elim id id |>.elim) (fun _ _ => id)
        (fun Zs Zx hs hx hf => ⟨.p me _ _ _ ((own_all (w' := w) (Zx := Zx) hT' (fun x hx => (hf x (.inl hx) id id).1) hs fun _ _ => rfl).worldEq fun _ _ => cell_freeze _ _ _ _) fun _ => id, .dead _ _ _ fun _ => id⟩) (fun v hv => by cases hv; rfl) (by simp)
      obtain ⟨F3, R3, t3⟩ := R2.base
      obtain ⟨F4, R4, t4⟩ := give_pure R3 (.str l) h
      rw [hcx, hc, hn']
      simp only [Nat.zero_mul, Nat.add_zero]
      exact ⟨_, _, F4, hr, R4, ((t1.trans t2).trans t3).trans t4⟩
  · cases hee
end
end Go.Proofs.Ytffofdfikmpanaa.A
namespace Go.Proofs.Ytffofdfikmpanaa.A
set_option linter.unusedVariables false
set_option linter.unusedSimpArgs false
section
variable {P : Program} {X : Nat → Prop} {w : World} {sl : List S} {F : Nat → Nat → Prop} {a : Act} {gv : List Value}
theorem tkO_run (R : Sit P w X sl F a gv) {t : Nat} (hx : OkT a (.tmp t)) {y : T} {sl1 : List S} (h : tkO P sl t = some (y, sl1)) : ∃ F', HRel P w X sl1 (a.tmps.toList ++ gv) y (a.eval (.tmp t)) F' ∧ To w F w F' := by
  have hcx := eval_tmp (hx t rfl) gv
  unfold tkO at h
  split at h
  · rename_i p off len ex hsx
    split at h
    · rename_i ty es hz
      split at h
      · rename_i sl2 hp
        cases h
        obtain ⟨F1, R1, t1⟩ := R.rel.giveDead
        obtain ⟨me, cz, G, hcz, hT, hsub, hGn, hput⟩ := R1.node2 hz
        obtain ⟨q, z, cz', hq, hz', hcz', hb⟩ := slotV (R.rel.slot t _ _ hsx hcx) (by simp)
        cases hq
        rw [hz] at hz'; cases hz'
        rw [hcz] at hcz'; cases hcz'
        obtain ⟨G', hG', hsub'⟩ := own_sub hT hb
        obtain ⟨F2, R2, t2⟩ := hput w .dead (.own ty ((es.drop off).take len)) (a.eval (.tmp t)) (fun _ => False) G' false _ hp (Turns.refl _ _) (fun _ h => h.elim) (fun x hx => .inl (.inl (hsub' x hx)))
          (fun x hx => hx.elim False.elim fun hx => R1.rel.lt _ x (hsub x (hsub' x hx))) (fun _ h => h.elim) (fun Zs Zx hs' hx' _ => ⟨.dead _ _ _ fun _ => id, hG'.mono zs_zx hs' hx' fun _ _ => rfl⟩) (by simp) (by simp)
        exact ⟨F2, R2, t1.trans t2⟩
      · cases h
    · cases h
  · exact tk_run R hx h
def Runs (P : Program) (w : World) (X : Nat → Prop) (F : Nat → Nat → Prop) (cv : List Value) (sl' : List S) (dst : Option Nat) (m : Sem Next) : Prop :=
  ∃ w' F', To w F w' F' ∧ ((∃ c, m.run P w = .ok (.value c) w' ∧ Rel P w' X sl' (setv cv dst c) F') ∨ (dst = none ∧ m.run P w = .ok .skip w' ∧ Rel P w' X sl' cv F'))
theorem Op1.runs {cv : List Value} {sl' : List S} {dst : Option Nat} {m : Sem Value} (h : Op1 P w X F cv sl' dst m) : Runs P w X F cv sl' dst (do pure (.value (← m))) := by
  obtain ⟨c, w', F', hr, R, t⟩ := h
  exact ⟨w', F', t, .inl ⟨c, by simp [hr], R⟩⟩
theorem freeze_row {w : World} {b k : Nat} {vs : Array Value} {ty : TypeId} {fz : Nat × Nat} (h : w.heap[b]? = some (.cells vs ty fz)) : ∃ fz', (w.freeze ⟨b, k, none⟩ 1).heap[b]? = some (.cells vs ty fz') := by
  obtain ⟨lo, hi⟩ := fz
  unfold World.freeze
  rw [if_neg (by decide)]
  simp [Array.getElem?_modify, h]
theorem freeze_other {w : World} {b k j : Nat} (h : j ≠ b) : (w.freeze ⟨b, k, none⟩ 1).heap[j]? = w.heap[j]? := by
  unfold World.freeze
  rw [if_neg (by decide)]
  simp [Array.getElem?_modify, Ne.symm h]
theorem freezeB_turns (w : World) (b k : Nat) (O : Nat → Prop) (hO : O b) : Turns w (w.freeze ⟨b, k, none⟩ 1) O := by
  refine ⟨?_, ?_, ?_, ?_, fun j _ hj => freeze_other fun e => hj (by rw [e]; exact hO)⟩ <;> (unfold World.freeze; rw [if_neg (by decide)])
  simp
theorem run_convSame {w : World} {s e ty : TypeId} {b off n c : Nat} {vs : Array Value} {fz : Nat × Nat} (hs : P.underlying s = some (.slice e)) (he : P.underlying e = some (.int .u8)) (hw : w.heap[b]? = some (.cells vs ty fz)) :
    (convert s s (.slice (some ⟨b, off, none⟩) n c)).run P w = .ok (.slice (some ⟨b, off, none⟩) n c) (w.freeze ⟨b, vs.size, none⟩ 1) := by
  have hsh : w.shape? b = some (ty, vs.size) := by unfold World.shape?; rw [hw]
  simp [convert, run_underlying hs, run_underlying he, markStringish, hsh]
def isCall : Op → Bool
  | .call { callee := .value _, .. } => true
  | .call { callee := .invoke _ _, .. } => true
  | _ => false
theorem eff_run {K : Oracle} {H : Hints} {me : FuncId} (R : Sit P w X sl F a gv) {o : Oper} (hops : ∀ x ∈ o.op.operands.toList, OkT a x) {sl' : List S} (h : eff P K H me sl o.dst o.op = some sl') (hc : isCall o.op = false) :
    Runs P w X F (a.tmps.toList ++ gv) sl' o.dst (execOp a.eval o) := by
  obtain ⟨dst, op, type, pos, after, guard⟩ := o
  simp only at h hc hops ⊢
  have pairs : ∀ (ps : Array (Nat × Operand)), (∀ x ∈ ps.map (·.2), OkT a x) → ∀ p ∈ ps.toList, OkT a p.2 := fun ps hp p hm => hp p.2 (Array.mem_map.2 ⟨p, Array.mem_toList_iff.1 hm, rfl⟩)
  cases op with
  | move x =>
    simp only [eff] at h
    have hx : OkT a x := hops x (by simp [Op.operands])
    split at h
    · rename_i y sl1 ht
      obtain ⟨F1, R1, t1⟩ := tk_run R hx ht
      obtain ⟨F2, R2, t2⟩ := R1.putD h
      exact ⟨w, F2, t1.trans t2, .inl ⟨_, rfl, R2⟩⟩
    · cases h
  | assign x =>
    simp only [eff] at h
    have hx : OkT a x := hops x (by simp [Op.operands])
    cases dst with
    | none => cases h
    | some d =>
      have plain : ∀ {h : assignOp P sl x d = some sl'}, Runs P w X F (a.tmps.toList ++ gv) sl' (some d) (pure (.value (a.eval x))) := fun {h} => by
        obtain ⟨F1, R1, t1⟩ := assign_run R hx h
        exact ⟨w, F1, t1, .inl ⟨_, rfl, R1⟩⟩
      cases x with
      | tmp t =>
        simp only at h
        split at h
        · unfold giveOp at h
          split at h
          · rename_i y sl1 ht
            obtain ⟨F1, R1, t1⟩ := tkO_run R hx ht
            obtain ⟨F2, R2, t2⟩ := R1.lay h
            exact ⟨w, F2, t1.trans t2, .inl ⟨_, rfl, R2⟩⟩
          · cases h
        · exact plain (h := h)
      | const v => exact plain (h := h)
      | func f => exact plain (h := h)
      | global g => exact plain (h := h)
  | store t ad x =>
    simp only [eff] at h
    have had : OkT a ad := hops ad (by simp [Op.operands])
    have hx : OkT a x := hops x (by simp [Op.operands])
    split at h
    · rename_i p i j hrd
      obtain ⟨w', F', hr, R', t'⟩ := storeAt_run R hx had hrd h
      exact ⟨w', F', t', .inr ⟨rfl, by simp [execOp, hr], R'⟩⟩
    · cases h
  | alloc t =>
    simp only [eff] at h
    split at h
    · rename_i z hz
      split at h
      · rename_i cs hk
        exact (op_alloc R.rel hz hk h).runs
      · cases h
    · cases h
  | box t x =>
    simp only [eff] at h
    have hx : OkT a x := hops x (by simp [Op.operands])
    split at h
    · rename_i vs sl1 ht
      split at h
      · exact (op_box R hx ht (t := t) h).runs
      · cases h
    · rename_i ts sl1 ht
      split at h
      · exact (op_box R hx ht (t := t) h).runs
      · cases h
    · cases h
    · rename_i y sl1 hn1 hn2 hn3 ht
      split at h
      · refine (op_box R hx ht (t := t) ?_).runs
        have : boxT t y = .opt t [y] := by
          cases y with
          | p v => cases v <;> first | rfl | exact absurd rfl (hn1 _)
          | agg ts => exact absurd rfl (hn2 _)
          | _ => rfl
        rw [this]; exact h
      · cases h
    · cases h
  | build t parts =>
    simp only [eff] at h
    have hx := pairs parts fun x hx => hops x (by simpa [Op.operands] using hx)
    split at h
    · rename_i hzo
      simp only [Bool.and_eq_true, List.isEmpty_iff] at hzo
      have hp : parts = #[] := by obtain ⟨l⟩ := parts; have := hzo.2; simp at this; rw [this]
      subst hp
      split at h
      · rename_i z fs hz hu
        split at h
        · rename_i cs hk
          split at h
          · rename_i hall
            have := (op_build0 R.rel hz hu hk hall h).runs
            simpa [execOp] using this
          · cases h
        · cases h
      · cases h
    split at h
    · rename_i x hps
      split at h
      · rename_i u y sl1 h1
        split at h
        · rename_i h2
          have hp : parts = #[(0, x)] := by obtain ⟨l⟩ := parts; have := partI_eq hps; simp at this; rw [this]
          subst hp
          have := (op_buildO R (hops x (by simp [Op.operands])) h1 h2 h).runs
          simpa [execOp] using this
        · cases h
      · cases h
    · split at h
      · rename_i l sl1 h1
        split at h
        · rename_i v h2
          exact (op_build R hx h1 h2 h).runs
        · cases h
      · cases h
  | buildSlice t len parts =>
    simp only [eff] at h
    have hx := pairs parts fun x hx => hops x (by simpa [Op.operands] using hx)
    split at h
    · rename_i e ht
      split at h
      · rename_i l sl1 h1
        split at h
        · rename_i es h2
          split at h
          · rename_i hh
            exact (op_buildSlice R hx ht h1 h2 hh.2.1 hh.2.2.1 hh.2.2.2 h).runs
          · cases h
        · cases h
      · cases h
    · cases h
  | makeSlice t l c =>
    simp only [eff] at h
    have hl : OkT a l := hops l (by simp [Op.operands])
    have hcc : OkT a c := hops c (by simp [Op.operands])
    split at h
    · rename_i e ln cn ht h1 h2
      split at h
      · rename_i z hz
        split at h
        · rename_i hh
          obtain ⟨g1, g2, g3, g4, g5, g6⟩ := hh
          have hv1 := pv_val R hl h1
          have hv2 := pv_val R hcc h2
          show Runs P w X F _ sl' dst (do pure (.value (← Instr.makeSlice t (a.eval l) (a.eval c))))
          generalize a.eval l = lv at hv1
          generalize a.eval c = cv at hv2
          cases hv1; cases hv2
          exact (op_makeSlice R ht hz g1 g2 g3 g4 g5 g6 h).runs
        · cases h
      · cases h
    · cases h
  | load t ad =>
    simp only [eff] at h
    have had : OkT a ad := hops ad (by simp [Op.operands])
    split at h
    · rename_i p i j hrd
      split at h
      · rename_i ty cs hz
        split at h
        · rename_i hh
          split at h
          · split at h
            · cases h
            · rename_i hs
              split at h
              · rename_i sl1 h1
                exact (op_loadMove R had hrd hz hh.1 hh.2.1 hh.2.2 (by simpa using hs) h1 h).runs
              · cases h
          · split at h
            · rename_i l hl
              split at h
              · rename_i sl1 h1
                exact (op_loadFreeze R had hrd hz hh.1 hh.2.1 hh.2.2 hl h1 h).runs
              · cases h
            · cases h
        · cases h
      · cases h
    · cases h
  | extract x i =>
    simp only [eff] at h
    cases x with
    | tmp t =>
      have hx : OkT a (.tmp t) := hops (.tmp t) (by simp [Op.operands])
      simp only at h
      split at h
      · rename_i ts ht
        cases hy : ts[i]? with
        | none => simp [hy] at h
        | some y =>
          refine (op_extract R hx ht hy ?_).runs
          simp only [hy] at h
          cases y <;> exact h
      · cases h
    | _ => cases h
  | makeInterface t x =>
    simp only [eff] at h
    have hx : OkT a x := hops x (by simp [Op.operands])
    split at h
    · rename_i hcon
      split at h
      · split at h
        · rename_i ty cs sl1 h1
          exact (op_ifaceO R hx hcon h1 h).runs
        · cases h
      · split at h
        · rename_i v sl1 h1
          exact (op_iface R hx hcon h1 h).runs
        · cases h
    · cases h
  | convert s d x =>
    simp only [eff] at h
    have hx : OkT a x := hops x (by simp [Op.operands])
    split at h
    · rename_i e hs hd
      split at h
      · rename_i l he hl
        split at h
        · rename_i hh
          have hv := pv_val R hx hl
          show Runs P w X F _ sl' dst (do pure (.value (← convert s d (a.eval x))))
          generalize a.eval x = xv at hv
          cases hv
          exact (op_bytes R hs hd he hh.2 h).runs
        · cases h
      · cases h
    · rename_i e e2 hs hd
      split at h
      · rename_i hsd
        subst hsd
        split at h
        · rename_i he
          split at h
          · rename_i ty v es sl1 ht
            obtain ⟨F1, R1, t1⟩ := tk_run R hx ht
            have hh := R1.hand
            show Runs P w X F _ sl' dst (do pure (.value (← convert s s (a.eval x))))
            generalize a.eval x = xv at hh R1
            generalize hes : v :: es = l at hh R1 h
            cases hh with
            | own0 => cases hes
            | own _ _ _ b off cap vs fz _ hw0 hc hsz hpos hfz hcl h1 hrep hF =>
              have hFb : F1 sl1.length b := (hF b).2 rfl
              obtain ⟨fz', hrow⟩ := freeze_row (k := vs.size) hw0
              obtain ⟨F2, R2, t2⟩ := R1.swap (.p (.sl false false (P.cellsOf ty) l)) (.slice (some ⟨b, off, none⟩) l.length cap) (fun _ => False) (freezeB_turns w b vs.size _ hFb) (fun _ h => h.elim) (fun _ h => h.elim)
                fun Zs Zx hs' hx' hf => .p none _ _ _ (.sl false false (P.cellsOf ty) l b off cap (fun h => by cases h) hc (hf b hFb id).1 hcl h1 (fun i j u y k1 k2 => by
                  rw [cell_row hrow]
                  have hi := (List.getElem?_eq_some_iff.1 k1).1
                  have hj := (List.getElem?_eq_some_iff.1 k2).1
                  rw [hcl i u k1] at hj
                  have : off + i * P.cellsOf ty + j < vs.size := by
                    have : (i + 1) * P.cellsOf ty ≤ cap * P.cellsOf ty := Nat.mul_le_mul_right _ (by omega)
                    rw [Nat.add_mul, Nat.one_mul] at this
                    omega
                  exact ⟨vs[off + i * P.cellsOf ty + j], Array.getElem?_eq_getElem this⟩) fun i j u y c' k1 k2 k3 => by
                  rw [cell_row hrow] at k3
                  exact (hrep i j u y c' k1 k2 k3).mono (fun _ h => h) hs' hs' fun k hk => freeze_other fun e => hk.1.2 sl1.length (e ▸ hFb)) fun _ => id
              obtain ⟨F3, R3, t3⟩ := R2.putD h
              exact ⟨_, F3, (t1.trans t2).trans t3, .inl ⟨_, (by simp [run_convSame hs he hw0]), R3⟩⟩
          · cases h
        · cases h
      · cases h
    · cases h
  | call c =>
    obtain ⟨callee, args, ts⟩ := c
    cases callee with
    | value f => simp [isCall] at hc
    | invoke r m => simp [isCall] at hc
    | builtin b =>
      have hargs : ∀ x ∈ args.toList, OkT a x := fun x hx => hops x (by simp [Op.operands, Call.operands]; exact Array.mem_toList_iff.1 hx)
      obtain ⟨args⟩ := args
      obtain ⟨ts⟩ := ts
      cases b <;> simp only [eff] at h <;> try (cases h; done)
      case append =>
        split at h
        · rename_i x y t u
          split at h
          · rename_i e ht
            split at h
            · rename_i hu
              have hu : noInt P u = true := (Bool.and_eq_true_iff.1 hu).2
              have := op_appendF (tt := type) R (hargs x (by simp)) (hargs y (by simp)) ht hu h
              obtain ⟨c, w', F', hr, R', t'⟩ := this
              exact ⟨w', F', t', .inl ⟨c, by simp [execOp, resolve, invoke, builtin, hr], R'⟩⟩
            · have := op_append (tt := type) R (hargs x (by simp)) (hargs y (by simp)) ht h
              obtain ⟨c, w', F', hr, R', t'⟩ := this
              exact ⟨w', F', t', .inl ⟨c, by simp [execOp, resolve, invoke, builtin, hr], R'⟩⟩
          · cases h
        · cases h
      case copy =>
        split at h
        · rename_i x y t u
          split at h
          · rename_i e ht
            have := op_copy (tt := type) (u := u) R (hargs x (by simp)) (hargs y (by simp)) ht h
            obtain ⟨c, w', F', hr, R', t'⟩ := this
            exact ⟨w', F', t', .inl ⟨c, by simp [execOp, resolve, invoke, builtin, hr], R'⟩⟩
          · cases h
        · cases h
      case unsafeSliceData =>
        split at h
        · rename_i x
          have hx := hargs x (by simp)
          split at h
          · rename_i p off ex hrd
            split at h
            · rename_i ty hz
              split at h
              · rename_i h0
                obtain ⟨q, z, cz, hq, hz', hcz, hb⟩ := rd_val R hx hrd
                cases hq
                rw [hz] at hz'; cases hz'
                obtain ⟨ty', es, ad, L, cap, ad', cap', hee, rfl, _, hcx, _, _, _, hadr⟩ := hb
                cases hee
                obtain ⟨me', G, hT, _⟩ := R.rel.node hz hcz
                cases hT with
                | own0 _ _ _ _ _ hn =>
                  have had : ad = none := hn h0
                  have had' : ad' = none := by
                    rcases hadr with ⟨_, h⟩ | ⟨b, o, h, _⟩
                    · exact h had
                    · rw [had] at h; cases h
                  subst had'
                  obtain ⟨F1, R1, t1⟩ := give_pure R.rel (.nilp) h
                  refine ⟨w, F1, t1, .inl ⟨.pointer none, ?_, R1⟩⟩
                  have hu := Go.Lib.run_unsafeSliceData_nil (P := P) w ts.toArray type 0 cap'
                  simp [execOp, resolve, invoke, builtin, hcx, hu]
                | own => omega
              · cases h
            · cases h
          · cases h
        · cases h
      case unsafeString =>
        split at h
        · rename_i x n pt it
          have hx := hargs x (by simp)
          have hn := hargs n (by simp)
          split at h
          · rename_i p m hrd hpv
            split at h
            · rename_i ty es e hz hpt
              split at h
              · rename_i hh
                obtain ⟨rfl, g1, g2, g3, g4⟩ := hh
                split at h
                · rename_i l hl
                  split at h
                  · rename_i sl1 hp
                    have hv := pv_val R hn hpv
                    obtain ⟨c, w', F', hr, R', t'⟩ := op_unsafeString (tt := type) (it := it) R hx hrd hz hpt g1 g2 g3 g4 hl hp h
                    refine ⟨w', F', t', .inl ⟨c, ?_, R'⟩⟩
                    have hne : a.eval n = .int .i64 m := by generalize a.eval n = nv at hv; cases hv; rfl
                    simp [execOp, resolve, invoke, builtin, hne, hr]
                  · cases h
                · cases h
              · cases h
            · cases h
          · rename_i m hrd hpv
            split at h
            · rename_i h0
              subst h0
              have hv := pv_val R hn hpv
              have hvx : PRep w (zs w X F) (zx w F) .nilp (a.eval x) := rd_val R hx hrd
              have hne : a.eval n = .int .i64 0 := by generalize a.eval n = nv at hv; cases hv; rfl
              have hxe : a.eval x = .pointer none := by generalize a.eval x = nv at hvx; cases hvx; rfl
              obtain ⟨F1, R1, t1⟩ := give_pure R.rel (.str []) h
              refine ⟨w, F1, t1, .inl ⟨_, ?_, R1⟩⟩
              have hu := Go.Lib.run_unsafeString_none (P := P) w pt it type none
              simp [execOp, resolve, invoke, builtin, hne, hxe, hu]
              rfl
            · cases h
          · cases h
        · cases h
  | makeFunc fv first captured =>
    cases fv with
    | func f =>
      simp only [eff] at h
      have hfst : ∀ {x : Operand}, captured.toList = [x] → OkT a x := fun {x} hx => hops x (by
        have : x ∈ captured := Array.mem_toList_iff.1 (by rw [hx]; simp)
        simp [Op.operands, this])
      split at h
      · rename_i t hf1 hc1
        have ht := hfst hc1
        split at h
        · rename_i ty cs hs
          split at h
          · split at h
            · rename_i sl1 hp
              simp only [putN, hs, T.put, Option.some.injEq] at hp
              subst hp
              have hc := eval_tmp (ht t rfl) gv
              obtain ⟨F1, R1, t1⟩ := R.rel.pick hs hc (by simp)
              have hh := R1.hand
              obtain ⟨F2, R2, t2⟩ := R1.swap (.clo f (.opt ty cs)) (.func (.func f) #[] #[a.eval (.tmp t)]) _ (Turns.refl _ _) (fun b hb => .inl hb) (fun b hb => R1.rel.lt _ b hb)
                fun Zs Zx hs' hx' _ => .clo none f _ _ _ (hh.mono zs_zx hs' hx' fun _ _ => rfl)
              obtain ⟨F3, R3, t3⟩ := R2.putD h
              refine ⟨w, F3, (t1.trans t2).trans t3, .inl ⟨_, ?_, R3⟩⟩
              have hf1' : first = #[] := by apply Array.ext'; simpa using hf1
              have hc1' : captured = #[.tmp t] := by apply Array.ext'; simpa using hc1
              subst hf1'; subst hc1'
              simp [execOp, Instr.makeFunc]
            · cases h
          split at h
          · rename_i l hl
            split at h
            · rename_i hstab
              split at h
              · rename_i sl1 hp
                obtain ⟨hlen, hget⟩ := pures_get hl
                have hc := eval_tmp (ht t rfl) gv
                obtain ⟨F1, R1, t1⟩ := R.rel.giveDead
                obtain ⟨me, cz, G, hcz, hT, hsub, hGn, hput⟩ := R1.node2 (p := ⟨t, []⟩) (slAt_nil hs)
                rw [cvAt_nil hc] at hcz; cases hcz
                generalize hev : a.eval (.tmp t) = c at hT
                cases hT with
                | opt me ty cs b vs F G' hw0 hll h1 hrep hF hb hd =>
                  have hcell : ∀ {Zs : Nat → Prop}, (∀ x, zs w X F1 x → Zs x) → Zs b → PRep w Zs Zs (.ref false l) (.pointer (some ⟨b, 0, none⟩)) := fun {Zs} hs' hb' => by
                    refine .ref false l b 0 hb' (fun j v hv => h1 j v (hget j v hv)) (fun j v hv => ?_) fun j v c hv hcv => ?_
                    · have hj : j < vs.size := by rw [← hll, hlen]; exact (List.getElem?_eq_some_iff.1 hv).1
                      exact ⟨vs[j], by rw [Nat.zero_add, cell_row hw0]; exact Array.getElem?_eq_getElem hj⟩
                    · rw [Nat.zero_add, cell_row hw0] at hcv
                      have := hrep j (.p v) c (hget j v hv) hcv
                      cases this with
                      | p me v c F h hF =>
                        exact (h.stay (stabL_get hstab _ _ hv)).mono (fun _ h => h) hs' hs' fun _ _ => rfl
                  obtain ⟨F2, R2, t2⟩ := hput w (.p (.ref false l)) (.p (.fn false f [.ref false l])) (.func (.func f) #[] #[.pointer (some ⟨b, 0, none⟩)]) (fun _ => False) (fun _ => False) false sl1 hp (Turns.refl _ _)
                    (fun _ h => h.elim) (fun _ h => h.elim) (fun _ h => h.elim id id |>.elim) (fun _ _ => id)
                    (fun Zs Zx hs' hx' hf => by
                      have hbz := (hf b (.inl ((hF b).2 (.inl rfl))) id id)
                      have hc1 := hcell (Zs := Zs) hs' hbz.1
                      refine ⟨.p me _ _ _ ?_ fun _ => id, .p none _ _ _ ?_ fun _ => id⟩
                      · cases hc1 with
                        | ref _ _ _ _ hz g1 g2 g3 => rw [hev]; exact .ref false l b 0 hz g1 g2 g3
                      · exact .fn false f [.ref false l] [.pointer (some ⟨b, 0, none⟩)] rfl fun i v c hv hcv => by
                          cases i with
                          | zero => cases hv; cases hcv; exact hc1
                          | succ i => simp at hv)
                    (fun v hv => by cases hv; rfl) (by simp)
                  obtain ⟨F3, R3, t3⟩ := R2.putD h
                  refine ⟨w, F3, (t1.trans t2).trans t3, .inl ⟨_, ?_, R3⟩⟩
                  have hf1' : first = #[] := by apply Array.ext'; simpa using hf1
                  have hc1' : captured = #[.tmp t] := by apply Array.ext'; simpa using hc1
                  subst hf1'; subst hc1'
                  simp [execOp, Instr.makeFunc, hev]
              · cases h
            · cases h
          · cases h
        · cases h
      · cases h
    | _ => simp only [eff] at h; cases h
  | _ => simp only [eff] at h; cases h
end
end Go.Proofs.Ytffofdfikmpanaa.A
