/- The layer A, part 4: code, functions, and the way to a law's row. Conditions: none. -/
import Derived.Test.YtffofdfikmpanaaLC
import Derived.Test.YtffofdfikmpanaaRows
import Derived.ProofKit
import Derived.OpenShut
set_option linter.unusedVariables false
set_option linter.unusedSimpArgs false
set_option linter.constructorNameAsVariable false
set_option linter.unusedSectionVars false
namespace Go.Proofs.Ytffofdfikmpanaa.A
set_option linter.unusedVariables false
set_option linter.unusedSimpArgs false
theorem least (p : Nat → Prop) (h : ∃ n, p n) : ∃ n, p n ∧ ∀ m, p m → n ≤ m := by
  obtain ⟨n, hn⟩ := h
  induction n using Nat.strongRecOn with
  | _ n ih =>
    by_cases hm : ∃ m, m < n ∧ p m
    · obtain ⟨m, hlt, hp⟩ := hm
      exact ih m hlt hp
    · exact ⟨n, hn, fun m hp => Nat.le_of_not_lt fun hlt => hm ⟨m, hlt, hp⟩⟩
section
variable {P : Program} {X : Nat → Prop} {gv : List Value}
def exOf : Ex → Exit
  | .normal => .normal
  | .exit id => .exit id
  | .ret => .ret
structure At (P : Program) (X : Nat → Prop) (gv : List Value) (n : Nat) (Wr : Nat → Prop) (t0 : Array Value) (lo : Nat) (w0 : World) (F0 : Nat → Nat → Prop) (sl : List S) (a : Act) (w : World) : Prop where
  size : a.tmps.size = n
  keep : ∀ i, ¬ Wr i → a.tmps[i]? = t0[i]?
  rel : ∃ (X' : Nat → Prop) (F : Nat → Nat → Prop), (∀ b, X b → X' b) ∧ True ∧ Marks lo X' a.defers w ∧ Rel P w X' sl (a.tmps.toList ++ gv) F ∧ To w0 F0 w F
theorem put_keep {a : Act} {dst : Option Nat} {c : Value} {i : Nat} (h : dst ≠ some i) : (a.put dst c).tmps[i]? = a.tmps[i]? := by
  cases dst with
  | none => rfl
  | some d => simp only [Act.put]; rw [Array.getElem?_setIfInBounds_ne (fun e => h (by rw [e]))]
theorem At.put {n : Nat} {Wr : Nat → Prop} {t0 : Array Value} {lo : Nat} {w0 w w' : World} {F0 F F' : Nat → Nat → Prop} {sl sl' : List S} {a : Act} {X' : Nat → Prop} (hs : a.tmps.size = n) (hk : ∀ i, ¬ Wr i → a.tmps[i]? = t0[i]?) (hX1 : ∀ b, X b → X' b) (hX2 : True)
    (hM : Marks lo X' a.defers w) (R : Rel P w X' sl (a.tmps.toList ++ gv) F) (t : To w0 F0 w F) {dst : Option Nat} (hd : ∀ d, dst = some d → d < n ∧ Wr d) {c : Value} (R' : Rel P w' X' sl' (setv (a.tmps.toList ++ gv) dst c) F') (t' : To w F w' F') :
    At P X gv n Wr t0 lo w0 F0 sl' (a.put dst c) w' := by
  refine ⟨?_, fun i hi => ?_, X', F', hX1, hX2, ?_, ?_, t.trans t'⟩
  · cases dst <;> simp [Act.put, hs]
  · rw [put_keep (fun e => hi (hd i e).2)]; exact hk i hi
  · have : (a.put dst c).defers = a.defers := by cases dst <;> rfl
    rw [this]; exact hM.to R t'
  · rw [put_toList (fun d hd' => by rw [hs]; exact (hd d hd').1)]; exact R'
theorem Rel.unwanted {w : World} {sl sl' : List S} {F : Nat → Nat → Prop} {cv : List Value} (R : Rel P w X sl cv F) {dst : Option Nat} (h : putD sl dst (.t (.tup [])) = some sl') : ∃ F', Rel P w X sl' (setv cv dst undef) F' ∧ To w F w F' := by
  obtain ⟨F1, R1, t1⟩ := R.give' (.tup []) undef (fun _ => False) (Turns.refl _ _) (fun _ h => h.elim) fun Zs Zx _ _ => .tup none [] [] _ (fun _ _ => False) rfl (by simp) (by simp) (by simp)
  obtain ⟨F2, R2, t2⟩ := R1.putD h
  exact ⟨F2, R2, t1.trans t2⟩
theorem wanted_run {w : World} {sl : List S} {F : Nat → Nat → Prop} {a : Act} (R : Rel P w X sl (a.tmps.toList ++ gv) F) {ops : Array Oper} (hops : ∀ o ∈ ops.toList, opOk a.tmps.size o = true) {o : Oper} {b : Bool} (h : wantA ops.toList sl o = some b) :
    Region.wanted o (yielded ops a.tmps) = b := by
  unfold wantA at h
  unfold Region.wanted
  split at h
  · rename_i hg; cases h; rw [hg]
  · rename_i j want hg
    rw [hg]
    split at h
    · rename_i g hj
      split at h
      · rename_i d hd
        split at h
        · rename_i t hs
          cases h
          have hok := hops g (List.mem_of_getElem? hj)
          simp only [opOk, hd, Bool.and_eq_true, decide_eq_true_eq] at hok
          have hc := eval_tmp hok.1 gv
          have hT : TRep P w (zs w X F) (zx w F) none (.p (.bool t)) (a.eval (.tmp d)) (F d) := R.slot d _ _ hs hc
          have hv : a.eval (.tmp d) = .bool t := by
            generalize a.eval (.tmp d) = c at hT
            cases hT with
            | p me v c F hp hF => cases hp; rfl
          have hget : a.tmps[d]? = some (.bool t) := by
            rw [Array.getElem?_eq_getElem hok.1, ← hv]
            simp [Act.eval, Array.getD, hok.1]
          simp only [yielded]
          rw [show ops[j]? = some g by simpa using hj]
          simp [hd, hget]
        · rename_i hs
          cases h
          have hok := hops g (List.mem_of_getElem? hj)
          simp only [opOk, hd, Bool.and_eq_true, decide_eq_true_eq] at hok
          have hc := eval_tmp hok.1 gv
          have hT : TRep P w (zs w X F) (zx w F) none (.tup []) (a.eval (.tmp d)) (F d) := R.slot d _ _ hs hc
          have hv : a.eval (.tmp d) = .tuple #[] := by
            generalize a.eval (.tmp d) = c at hT
            cases hT with
            | tup me cs vs F G hl h hF hd => have : vs = [] := List.eq_nil_of_length_eq_zero (by simpa using hl.symm); subst this; rfl
          have hget : a.tmps[d]? = some (.tuple #[]) := by
            rw [Array.getElem?_eq_getElem hok.1, ← hv]
            simp [Act.eval, Array.getD, hok.1]
          simp only [yielded]
          rw [show ops[j]? = some g by simpa using hj]
          simp [hd, hget]
        · cases h
      · cases h
    · cases h
theorem At.fix {n : Nat} {Wr : Nat → Prop} {t0 : Array Value} {lo : Nat} {w0 w : World} {F0 : Nat → Nat → Prop} {a : Act} : ∀ {l : List (Nat × Bool)} {sl sl' : List S}, At P X gv n Wr t0 lo w0 F0 sl a w → (l.all fun x => !x.2 || decide (x.1 < n)) = true → fixS P l sl = some sl' → At P X gv n Wr t0 lo w0 F0 sl' a w
  | [], sl, sl', hA, _, h => by simp only [fixS, Option.some.injEq] at h; subst h; exact hA
  | (d, false) :: r, sl, sl', hA, hok, h => by
    simp only [fixS] at h
    split at h
    · rename_i s1 h1
      obtain ⟨X', F, hX1, hX2, hM, R, t⟩ := hA.rel
      have hd : ∃ c, (a.tmps.toList ++ gv)[d]? = some c := by
        have : d < sl.length := by
          unfold setD at h1
          cases hs : sl[d]? with
          | none => rw [hs] at h1; cases h1
          | some o => exact (List.getElem?_eq_some_iff.1 hs).1
        rw [R.len] at this
        exact ⟨_, List.getElem?_eq_getElem this⟩
      obtain ⟨c, hc⟩ := hd
      obtain ⟨F1, R1, t1⟩ := R.give' .dead c (fun _ => False) (Turns.refl _ _) (fun _ h => h.elim) fun _ _ _ _ => .dead none _ _ fun _ => id
      obtain ⟨F2, R2, t2⟩ := R1.putD (dst := some d) h1
      have hset : setv (a.tmps.toList ++ gv) (some d) c = a.tmps.toList ++ gv := by
        simp only [setv]
        apply List.ext_getElem?
        intro i
        by_cases he : i = d
        · subst he; rw [List.getElem?_set_self (List.getElem?_eq_some_iff.1 hc).1, hc]
        · rw [List.getElem?_set_ne (Ne.symm he)]
      rw [hset] at R2
      simp only [List.all_cons, Bool.and_eq_true] at hok
      exact At.fix ⟨hA.size, hA.keep, X', F2, hX1, hX2, hM, R2, t.trans (t1.trans t2)⟩ hok.2 h
    · cases h
  | (d, true) :: r, sl, sl', hA, hok, h => by
    simp only [fixS] at h
    simp only [List.all_cons, Bool.and_eq_true] at hok
    have hdn : d < n := by simpa using hok.1
    split at h
    · rename_i v s1 h1
      split at h
      · rename_i s2 h2
        obtain ⟨X', F, hX1, hX2, hM, R, t⟩ := hA.rel
        have hc := eval_tmp (a := a) (t := d) (by rw [hA.size]; exact hdn) gv
        obtain ⟨F1, R1, t1, hp⟩ := tkV_run ⟨R⟩ (x := .tmp d) (fun u hu => by cases hu; rw [hA.size]; exact hdn) h1
        obtain ⟨F2, R2, t2⟩ := give_pure R1 (hp.mono (fun _ h => h) (fun _ h => h) zs_zx fun _ _ => rfl).noExV (dst := some d) h2
        have hset : setv (a.tmps.toList ++ gv) (some d) (a.eval (.tmp d)) = a.tmps.toList ++ gv := by
          simp only [setv]
          apply List.ext_getElem?
          intro i
          by_cases he : i = d
          · subst he; rw [List.getElem?_set_self (List.getElem?_eq_some_iff.1 hc).1, hc]
          · rw [List.getElem?_set_ne (Ne.symm he)]
        rw [hset] at R2
        exact At.fix ⟨hA.size, hA.keep, X', F2, hX1, hX2, hM, R2, t.trans (t1.trans t2)⟩ hok.2 h
      · cases h
    · cases h
theorem pickK_ok {n : Nat} (all : List Oper) (o : Oper) : ((pickK all o).all fun x => !x.2 || decide (x.1 < n)) = true := by
  rw [List.all_eq_true]
  intro x hx
  have : x.2 = false := by
    unfold pickK at hx
    split at hx
    · rw [List.mem_filterMap] at hx
      obtain ⟨g, _, hg⟩ := hx
      split at hg
      · split at hg
        · split at hg
          · rw [Option.map_eq_some_iff] at hg
            obtain ⟨d, _, rfl⟩ := hg
            rfl
          · cases hg
        · cases hg
      · cases hg
    · cases hx
  simp [this]
theorem ops_wp {K : Oracle} {H : Hints} {me : FuncId} (hK : KSound P K) (hH : HSound P H) {r : Option Nat} {m : Nat} {ops : Array Oper} {n : Nat} {Wr : Nat → Prop} {t0 : Array Value} {lo : Nat} (hops : ∀ o ∈ ops.toList, opOk n o = true) (hW : ∀ o ∈ ops.toList, ∀ d, o.dst = some d → Wr d)
    {w0 : World} {F0 : Nat → Nat → Prop} {Q : Exit → Act → World → Prop} {sl' : List S}
    (hQ : ∀ a' w', At P X gv n Wr t0 lo w0 F0 sl' a' w' → Q .normal a' w') :
    ∀ (rest : List Oper) (i : Nat) (sl : List S) (a : Act) (w : World), (∀ j, (rest)[j]? = ops.toList[i + j]?) → At P X gv n Wr t0 lo w0 F0 sl a w → runOps P K H me ops.toList rest sl = some sl' → wpOpsIn (FR r) m P ops Q (List.range' i rest.length) a w
  | [], i, sl, a, w, _, hA, h => by
    simp only [runOps, Option.some.injEq] at h; subst h
    exact hQ a w hA
  | o :: rest, i, sl, a, w, hj, hA, h => by
    have ho : ops[i]? = some o := by have := hj 0; simpa using this.symm
    have hrest : ∀ j, rest[j]? = ops.toList[i + 1 + j]? := fun j => by have := hj (j + 1); simpa [Nat.add_assoc, Nat.add_comm 1 j] using this
    obtain ⟨X', F, hX1, hX2, hM, R, t⟩ := hA.rel
    simp only [runOps] at h
    rw [List.length_cons, List.range'_succ]
    simp only [wpOpsIn, ho]
    have hmem : o ∈ ops.toList := by rw [List.mem_iff_getElem?]; exact ⟨i, by simpa using ho⟩
    have hok := hops o hmem
    have hd : ∀ d, o.dst = some d → d < n ∧ Wr d := fun d hd => ⟨by simp only [opOk, Bool.and_eq_true] at hok; have := hok.1; rw [hd] at this; simpa using this, hW o hmem d hd⟩
    split at h
    · rename_i sl1 hst
      split at h
      · rename_i sl2 hfx
        unfold stepW at hst
        split at hst
        · rename_i hw
          rw [if_pos (wanted_run R (by rw [hA.size]; exact hops) hw)]
          refine run_wpIn (stepA_nodefer hst) (stepA_run hK hH R (by rw [hA.size]; exact hok) hst fun c w' F' R' t' => ?_)
          exact ops_wp hK hH hops hW hQ rest (i + 1) sl2 _ w' hrest (At.fix (At.put hA.size hA.keep hX1 hX2 hM R t hd R' t') (pickK_ok _ _) hfx) h
        · rename_i hw
          rw [if_neg (by rw [wanted_run R (by rw [hA.size]; exact hops) hw]; simp)]
          obtain ⟨F', R', t'⟩ := R.unwanted hst
          exact ⟨fun _ _ => trivial, ops_wp hK hH hops hW hQ rest (i + 1) sl2 _ w hrest (At.fix (sl := sl1) (At.put hA.size hA.keep hX1 hX2 hM R t hd R' t') (pickK_ok _ _) hfx) h⟩
        · cases hst
      · cases h
    · cases h
theorem mem_dedupN {a : Nat} : ∀ {l : List Nat}, a ∈ dedupN l ↔ a ∈ l
  | [] => by simp [dedupN]
  | b :: r => by
    unfold dedupN
    split
    · rename_i h
      rw [mem_dedupN (l := r), List.mem_cons]
      constructor
      · exact .inr
      · rintro (rfl | h2)
        · simpa using h
        · exact h2
    · rw [List.mem_cons, List.mem_cons, mem_dedupN (l := r)]
theorem ancs_spec : ∀ (r : List Oper) (acc : List (List Nat)), (ancs r acc).length = acc.length + r.length ∧ (∀ k, k < acc.length → (ancs r acc).getD k [] = acc.getD k []) ∧
    ∀ k o, acc.length ≤ k → r[k - acc.length]? = some o → ∀ j ∈ (ancs r acc).getD k [], j ∈ waitsOn o ∨ ∃ j' ∈ waitsOn o, j ∈ (ancs r acc).getD j' []
  | [], acc => by simp [ancs]
  | o :: r, acc => by
    obtain ⟨h1, h2, h3⟩ := ancs_spec r (acc ++ [dedupN (waitsOn o ++ (waitsOn o).flatMap fun j => acc.getD j [])])
    simp only [ancs]
    refine ⟨by rw [h1]; simp; omega, fun k hk => ?_, fun k o' hk ho j hj => ?_⟩
    · rw [h2 k (by simp; omega)]
      simp [List.getElem?_append_left hk]
    · by_cases he : k = acc.length
      · subst he
        simp at ho; subst ho
        rw [h2 acc.length (by simp)] at hj
        simp [mem_dedupN] at hj
        rcases hj with hj | ⟨j', hj', hj⟩
        · exact .inl hj
        · refine .inr ⟨j', hj', ?_⟩
          by_cases hl : j' < acc.length
          · rw [h2 j' (by simp; omega)]
            simpa [List.getElem?_append_left hl] using hj
          · simp [List.getElem?_eq_none (Nat.le_of_not_lt hl)] at hj
      · exact h3 k o' (by simp; omega) (by rw [← ho]; simp; rw [show k - acc.length = (k - (acc.length + 1)) + 1 by omega]; rfl) j hj
theorem At.drawn {n : Nat} {Wr : Nat → Prop} {t0 : Array Value} {lo : Nat} {w0 w : World} {F0 : Nat → Nat → Prop} {sl : List S} {a : Act} (h : At P X gv n Wr t0 lo w0 F0 sl a w) (k : Nat) : At P X gv n Wr t0 lo w0 F0 sl a { w with drawn := k } := by
  obtain ⟨X', F, hX1, hX2, hM, R, t⟩ := h.rel
  exact ⟨h.size, h.keep, X', F, hX1, hX2, hM.step fun _ _ h => h, R.others ⟨Nat.le_refl _, fun _ _ _ _ h => h⟩ (fun b hb => .inl hb) R.xlt, t.trans ⟨fun i b h => .inl ⟨i, h⟩, ⟨rfl, rfl, rfl, Nat.le_refl _, fun _ _ _ => rfl⟩⟩⟩
theorem step_wp {K : Oracle} {H : Hints} {me : FuncId} (hK : KSound P K) (hH : HSound P H) {ro : Option Nat} {m : Nat} {ops : Array Oper} {n : Nat} {Wr : Nat → Prop} {t0 : Array Value} {lo : Nat} (hops : ∀ o ∈ ops.toList, opOk n o = true) (hW : ∀ o ∈ ops.toList, ∀ d, o.dst = some d → Wr d)
    {w0 : World} {F0 : Nat → Nat → Prop} {Q : Exit → Act → World → Prop}
    {i : Nat} {o : Oper} (ho : ops[i]? = some o) {sl sl1 : List S} {a : Act} {w : World} {r : Rec} (hA : At P X gv n Wr t0 lo w0 F0 sl a w) (h : stepR P K H me ops.toList sl o = some (r, sl1)) {next : Act → World → Prop}
    (hn : ∀ a' w', At P X gv n Wr t0 lo w0 F0 sl1 a' w' → next a' w') : wpOpIn (FR ro) m P ops Q i next a w := by
  obtain ⟨X', F, hX1, hX2, hM, R, t⟩ := hA.rel
  have hmem : o ∈ ops.toList := by rw [List.mem_iff_getElem?]; exact ⟨i, by simpa using ho⟩
  have hok := hops o hmem
  have hd : ∀ d, o.dst = some d → d < n ∧ Wr d := fun d hd => ⟨by simp only [opOk, Bool.and_eq_true] at hok; have := hok.1; rw [hd] at this; simpa using this, hW o hmem d hd⟩
  unfold stepR at h
  simp only [wpOpIn, ho]
  split at h
  · rename_i hw
    rw [if_pos (wanted_run R (by rw [hA.size]; exact hops) hw)]
    split at h
    · split at h
      · rename_i sl2 hst
        cases h
        exact run_wpIn (stepA_nodefer hst) (stepA_run hK hH R (by rw [hA.size]; exact hok) hst fun c w' F' R' t' => hn _ _ (At.put hA.size hA.keep hX1 hX2 hM R t hd R' t'))
      · cases h
    · cases h
  · rename_i hw
    rw [if_neg (by rw [wanted_run R (by rw [hA.size]; exact hops) hw]; simp)]
    split at h
    · rename_i sl2 hst
      cases h
      obtain ⟨F', R', t'⟩ := R.unwanted hst
      exact ⟨fun _ _ => trivial, hn _ _ (At.put hA.size hA.keep hX1 hX2 hM R t hd R' t')⟩
    · cases h
  · cases h
theorem any_wp {K : Oracle} {H : Hints} {me : FuncId} (hK : KSound P K) (hH : HSound P H) {ro : Option Nat} {m : Nat} {ops : Array Oper} {n : Nat} {Wr : Nat → Prop} {t0 : Array Value} {lo : Nat} (hops : ∀ o ∈ ops.toList, opOk n o = true) (hW : ∀ o ∈ ops.toList, ∀ d, o.dst = some d → Wr d) {w0 : World} {F0 : Nat → Nat → Prop} {Q : Exit → Act → World → Prop} {sl' : List S}
    (hQ : ∀ a' w', At P X gv n Wr t0 lo w0 F0 sl' a' w' → Q .normal a' w') {ps : List (Nat × Nat)} {recs : List Rec} (hf : freeP ops.toList = some ps) (hap : apartR recs ps = true) :
    ∀ (fuel : Nat) (rem : List Nat) (listed : Array Bool) (sl : List S) (a : Act) (w : World), (∀ i, i ∈ rem ↔ i < ops.size ∧ listed.getD i true = false) → rem.Pairwise (· < ·) → rem.length ≤ fuel →
      (∀ i, listed.getD i false = true → ∀ j ∈ (ancs ops.toList []).getD i [], listed.getD j false = true) → listed.size = ops.size →
      runR P K H me ops.toList rem sl = some (rem.map (recs.getD · default), sl') → At P X gv n Wr t0 lo w0 F0 sl a w → wpAnyIn (FR ro) m P .any ops Q fuel listed a w := by
  have hback : ∀ k o, ops[k]? = some o → ∀ j ∈ waitsOn o, j < k := by
    intro k o ho j hj
    unfold freeP at hf
    split at hf
    · rename_i hb
      have hlt : k < ops.size := (Array.getElem?_eq_some_iff.1 ho).1
      have := List.all_eq_true.1 hb k (by simpa using hlt)
      have h2 := List.all_eq_true.1 this j (by
        rw [List.getD_eq_getElem?_getD, show ops.toList[k]? = some o by simpa using ho]; exact hj)
      simpa using h2
    · cases hf
  have hmem : ∀ j k, k < ops.size → j < k → j ∉ (ancs ops.toList []).getD k [] → indep (recs.getD j default) (recs.getD k default) = true := by
    intro j k hk hj hn
    unfold freeP at hf
    split at hf
    · cases hf
      refine List.all_eq_true.1 hap (j, k) ?_
      rw [List.mem_flatMap]
      refine ⟨k, by simpa using hk, ?_⟩
      rw [List.mem_map]
      refine ⟨j, ?_, rfl⟩
      rw [List.mem_filter]
      exact ⟨by simpa using hj, by simpa using hn⟩
    · cases hf
  have hwait : ∀ (listed : Array Bool) (o : Oper), (∀ e ∈ o.after, Region.binds .any e = true → listed.getD e.on false = true) → ∀ j ∈ waitsOn o, listed.getD j false = true := by
    intro listed o h j hj
    unfold waitsOn at hj
    rw [List.mem_map] at hj
    obtain ⟨e, he, rfl⟩ := hj
    rw [List.mem_filter] at he
    exact h e (Array.mem_toList_iff.1 he.1) he.2
  intro fuel
  induction fuel with
  | zero =>
    intro rem listed sl a w hrem hs hl hd hsz hr hA
    have : rem = [] := List.eq_nil_of_length_eq_zero (by omega)
    subst this
    refine ⟨?_, ?_⟩
    · rw [List.eq_nil_iff_forall_not_mem]
      intro j hj
      obtain ⟨h0, o, ho, _⟩ := mem_ready.1 hj
      have := (hrem j).2 ⟨(Array.getElem?_eq_some_iff.1 ho).1, h0⟩
      cases this
    · simp only [runR, Option.some.injEq, Prod.mk.injEq] at hr
      exact hQ a w (by rw [← hr.2]; exact hA)
  | succ fuel ih =>
    intro rem listed sl a w hrem hs hl hd hsz hr hA
    refine ⟨fun hnil => ?_, fun i hi => ?_⟩
    · cases rem with
      | nil =>
        simp only [runR, Option.some.injEq, Prod.mk.injEq] at hr
        exact hQ a w (by rw [← hr.2]; exact hA)
      | cons i r =>
        exfalso
        obtain ⟨hlt, hul⟩ := (hrem i).1 (by simp)
        have hin : i ∈ Region.ready .any ops listed := by
          rw [mem_ready]
          refine ⟨hul, ops[i], by simp [hlt], fun e he hb => ?_⟩
          have hw : e.on ∈ waitsOn ops[i] := by
            unfold waitsOn
            rw [List.mem_map]
            exact ⟨e, List.mem_filter.2 ⟨Array.mem_toList_iff.2 he, hb⟩, rfl⟩
          have hlt' := hback i ops[i] (by simp [hlt]) e.on hw
          cases hc : listed.getD e.on false with
          | true => rfl
          | false =>
            have hml : e.on ∈ i :: r := (hrem e.on).2 ⟨by omega, by
              have : e.on < listed.size := by omega
              simp [this] at hc ⊢; exact hc⟩
            rcases List.mem_cons.1 hml with h | h
            · omega
            · have := (List.pairwise_cons.1 hs).1 _ h; omega
        rw [hnil] at hin; cases hin
    · obtain ⟨hul, o, ho, hall⟩ := mem_ready.1 hi
      have hlt : i < ops.size := (Array.getElem?_eq_some_iff.1 ho).1
      have himem : i ∈ rem := (hrem i).2 ⟨hlt, hul⟩
      obtain ⟨l1, l2, rfl⟩ := List.append_of_mem himem
      have hwl := hwait listed o hall
      have hanc : ∀ j ∈ (ancs ops.toList []).getD i [], listed.getD j false = true := by
        intro j hj
        rcases (ancs_spec ops.toList []).2.2 i o (by simp) (by simpa using ho) j hj with h | ⟨j', h1, h2⟩
        · exact hwl j h
        · exact hd j' (hwl j' h1) j h2
      rw [List.pairwise_append] at hs
      obtain ⟨hs1, hs2, hs3⟩ := hs
      have hnotin : ∀ j ∈ l1 ++ l2, j ≠ i := by
        intro j hj
        rcases List.mem_append.1 hj with h | h
        · have := hs3 j h i (by simp); omega
        · have := (List.pairwise_cons.1 hs2).1 j h; omega
      obtain ⟨b, hb1, hb2⟩ := bubble (o := o) (by simpa using ho) hr fun k hk => by
        have hj : l1[k] ∈ l1 := List.getElem_mem hk
        have hjr := (hrem l1[k]).1 (List.mem_append_left _ hj)
        have e1 : ((l1 ++ i :: l2).map (recs.getD · default)).getD k default = recs.getD l1[k] default := by
          rw [List.getD_eq_getElem?_getD, List.getElem?_map, List.getElem?_append_left hk]
          simp [hk]
        have e2 : ((l1 ++ i :: l2).map (recs.getD · default)).getD l1.length default = recs.getD i default := by
          rw [List.getD_eq_getElem?_getD, List.getElem?_map, List.getElem?_append_right (Nat.le_refl _)]
          simp
        rw [e1, e2]
        refine hmem _ _ hlt (hs3 _ hj i (by simp)) fun hin => ?_
        have h1 := hanc _ hin
        have : l1[k] < listed.size := by rw [hsz]; exact hjr.1
        have h2 := hjr.2
        simp [this] at h1 h2
        rw [h1] at h2; cases h2
      refine step_wp hK hH hops hW ho hA hb1 fun a' w' hA' => ?_
      refine ih (l1 ++ l2) (listed.setIfInBounds i true) b a' w' (fun j => ?_) ?_ (by simp at hl ⊢; omega) (fun k hk j hj => ?_) (by simp [hsz]) ?_ hA'
      · constructor
        · intro hj
          have hne := hnotin j hj
          have := (hrem j).1 (by rcases List.mem_append.1 hj with h | h <;> simp [h])
          exact ⟨this.1, by rw [getD_set_ne true (Ne.symm hne)]; exact this.2⟩
        · rintro ⟨h1, h2⟩
          by_cases he : j = i
          · subst he
            have : j < listed.size := by omega
            simp [this] at h2
          · rw [getD_set_ne true (Ne.symm he)] at h2
            have := (hrem j).2 ⟨h1, h2⟩
            rcases List.mem_append.1 this with h | h
            · exact List.mem_append_left _ h
            · exact List.mem_append_right _ ((List.mem_cons.1 h).resolve_left he)
      · rw [List.pairwise_append]
        exact ⟨hs1, (List.pairwise_cons.1 hs2).2, fun x hx y hy => hs3 x hx y (List.mem_cons_of_mem _ hy)⟩
      · by_cases he : k = i
        · subst he
          exact getD_set_true (hanc j hj)
        · rw [getD_set_ne false (Ne.symm he)] at hk
          exact getD_set_true (hd k hk j hj)
      · rw [hb2]
        simp only [List.map_append, List.map_cons]
        congr 1
        congr 1
        rw [List.take_append_of_le_length (by simp), List.drop_append]
        simp [List.take_of_length_le]
theorem runR_len {K : Oracle} {H : Hints} {me : FuncId} {all : List Oper} : ∀ {l : List Nat} {sl sl' : List S} {recs : List Rec}, runR P K H me all l sl = some (recs, sl') → recs.length = l.length
  | [], sl, sl', recs, h => by simp only [runR, Option.some.injEq, Prod.mk.injEq] at h; rw [← h.1]; rfl
  | i :: r, sl, sl', recs, h => by
    simp only [runR] at h
    split at h
    · split at h
      · split at h
        · rename_i h2
          cases h
          simp [runR_len h2]
        · cases h
      · cases h
    · cases h
theorem around_run {n : Nat} {Wr : Nat → Prop} {t0 : Array Value} {lo : Nat} {w0 : World} {F0 : Nat → Nat → Prop} {h : HT} (hh : h.ok n = true) {f : List S → Option (Ex × List S)} {sl sl' : List S} {e : Ex} (hr : around P h f sl = some (e, sl')) :
    ∃ s1 s2, (∀ a w, At P X gv n Wr t0 lo w0 F0 sl a w → At P X gv n Wr t0 lo w0 F0 s1 a w) ∧ f s1 = some (e, s2) ∧ ∀ a w, At P X gv n Wr t0 lo w0 F0 s2 a w → At P X gv n Wr t0 lo w0 F0 sl' a w := by
  have hpre : (h.pre.all fun x => !x.2 || decide (x.1 < n)) = true := by
    cases h with
    | z => rfl
    | n p q l r => simp only [HT.ok, Bool.and_eq_true] at hh; exact hh.1.1.1
  have hpost : (h.post.all fun x => !x.2 || decide (x.1 < n)) = true := by
    cases h with
    | z => rfl
    | n p q l r => simp only [HT.ok, Bool.and_eq_true] at hh; exact hh.1.1.2
  unfold around at hr
  split at hr
  · rename_i s1 h1
    cases hf : f s1 with
    | none => rw [hf] at hr; simp [postS] at hr
    | some er =>
      obtain ⟨e2, s2⟩ := er
      rw [hf] at hr
      cases e2 with
      | normal =>
        simp only [postS] at hr
        split at hr
        · rename_i s3 h3
          cases hr
          exact ⟨s1, s2, fun a w hA => hA.fix hpre h1, hf, fun a w hA => hA.fix hpost h3⟩
        · cases hr
      | exit j =>
        simp only [postS, Option.some.injEq, Prod.mk.injEq] at hr
        obtain ⟨rfl, rfl⟩ := hr
        exact ⟨s1, s2, fun a w hA => hA.fix hpre h1, hf, fun a w hA => hA⟩
      | ret =>
        simp only [postS, Option.some.injEq, Prod.mk.injEq] at hr
        obtain ⟨rfl, rfl⟩ := hr
        exact ⟨s1, s2, fun a w hA => hA.fix hpre h1, hf, fun a w hA => hA⟩
  · cases hr
theorem HT.ok_l {h : HT} {n : Nat} (hh : h.ok n = true) : h.l.ok n = true := by
  cases h with
  | z => rfl
  | n p q l r => simp only [HT.ok, Bool.and_eq_true] at hh; exact hh.1.2
theorem HT.ok_r {h : HT} {n : Nat} (hh : h.ok n = true) : h.r.ok n = true := by
  cases h with
  | z => rfl
  | n p q l r => simp only [HT.ok, Bool.and_eq_true] at hh; exact hh.2
theorem pick_dsts {ops : Array Oper} {Wr : Nat → Prop} {id : Nat} {draw : Bool} (h : ∀ d ∈ dstsC (.region id ops draw), Wr d) : ∀ o ∈ ops.toList, ∀ d, o.dst = some d → Wr d :=
  fun o ho d hd => h d (by simp only [dstsC, List.mem_flatMap]; exact ⟨o, ho, by simp [hd]⟩)
theorem To.put {w0 w : World} {F0 F : Nat → Nat → Prop} (t : To w0 F0 w F) {l : Nat} (hl : w0.heap.size ≤ l) (o : Obj) : To w0 F0 (w.putObj l o) F :=
  ⟨t.own, ⟨t.turns.os, t.turns.tape, t.turns.output, by rw [World.putObj_size]; exact t.turns.size, fun b hb hn => by rw [World.putObj_heap_other (by omega)]; exact t.turns.block b hb hn⟩⟩
theorem put_cells {w : World} {l : Nat} {r : Loop} (h : w.heap[l]? = some (.loop r)) (o : Obj) : CellsStay w (w.putObj l o) :=
  ⟨by rw [World.putObj_size]; exact Nat.le_refl _, fun b vs ty fz hb => by
    by_cases e : b = l
    · subst e; rw [h] at hb; cases hb
    · rw [World.putObj_heap_other e]; exact hb⟩
theorem turns_cells {w w' : World} (h : Turns w w' (fun _ => False)) : CellsStay w w' :=
  ⟨h.size, fun b vs ty fz hb => by rw [h.block b (Array.getElem?_eq_some_iff.1 hb).1 id]; exact hb⟩
theorem Marks.putLoop {lo : Nat} {X : Nat → Prop} {ds : List Deferred} {w : World} {l : Nat} {r : Loop} (h : Marks lo X ds w) (hl : w.heap[l]? = some (.loop r)) (o : Obj) : Marks lo X ds (w.putObj l o) :=
  h.step fun D _ hD => by rw [World.putObj_heap_other (fun e => by subst e; rw [hl] at hD; cases hD)]; exact hD
theorem setPs_run : ∀ {ps : List Nat} {vs : List V} {cs : List Value} {sl sl' : List S} {cv : List Value} {w : World} {X : Nat → Prop} {F : Nat → Nat → Prop}, setPs ps vs sl = some sl' → cs.length = vs.length → Rel P w X sl cv F →
    (∀ (k : Nat) (v : V) (c : Value), vs[k]? = some v → cs[k]? = some c → ∀ F', (∀ b, zx w F b → zx w F' b) → PRep w (zs w X F') (zx w F') v c) →
    ps.length = vs.length ∧ ∃ F', Rel P w X sl' ((ps.zip cs).foldl (fun t x => t.set x.1 x.2) cv) F' ∧ To w F w F'
  | [], [], [], sl, sl', cv, w, X, F, h, _, R, _ => by
    simp only [setPs, Option.some.injEq] at h; subst h
    exact ⟨rfl, F, R, To.refl _ _⟩
  | p :: ps, v :: vs, c :: cs, sl, sl', cv, w, X, F, h, hl, R, hp => by
    simp only [setPs] at h
    split at h
    · rename_i s1 h1
      obtain ⟨F1, R1, t1⟩ := give_pure R (hp 0 v c rfl rfl F fun _ h => h) (dst := some p) h1
      obtain ⟨hl2, F2, R2, t2⟩ := setPs_run (cs := cs) h (by simpa using hl) R1 fun k v' c' hv hc F' hF => hp (k + 1) v' c' hv hc F' fun b hb => hF b (t1.zx b hb)
      exact ⟨by simp [hl2], F2, R2, t1.trans t2⟩
    · cases h
  | [], _ :: _, _, sl, sl', cv, w, X, F, h, _, _, _ => by simp [setPs] at h
  | _ :: _, [], _, sl, sl', cv, w, X, F, h, _, _, _ => by simp [setPs] at h
  | _, [], _ :: _, sl, sl', cv, w, X, F, _, hl, _, _ => by simp at hl
  | _, _ :: _, [], sl, sl', cv, w, X, F, _, hl, _, _ => by simp at hl
theorem fold_toList : ∀ {ps : List Nat} {cs : List Value} {t : Array Value} {gv : List Value}, (∀ p ∈ ps, p < t.size) → ((ps.zip cs).foldl (fun (t : Array Value) x => t.setIfInBounds x.1 x.2) t).toList ++ gv = (ps.zip cs).foldl (fun t x => t.set x.1 x.2) (t.toList ++ gv)
  | [], cs, t, gv, _ => by simp
  | p :: ps, [], t, gv, _ => by simp
  | p :: ps, c :: cs, t, gv, h => by
    simp only [List.zip_cons_cons, List.foldl_cons]
    rw [fold_toList (fun q hq => by simpa using h q (by simp [hq]))]
    congr 1
    rw [Array.toList_setIfInBounds, List.set_append_left _ _ (by simpa using h p (by simp))]
theorem fold_size : ∀ {ps : List Nat} {cs : List Value} {t : Array Value}, ((ps.zip cs).foldl (fun (t : Array Value) x => t.setIfInBounds x.1 x.2) t).size = t.size
  | [], cs, t => by simp
  | p :: ps, [], t => by simp
  | p :: ps, c :: cs, t => by
    simp only [List.zip_cons_cons, List.foldl_cons]
    rw [fold_size]; simp
theorem fold_keep : ∀ {ps : List Nat} {cs : List Value} {t : Array Value} {i : Nat}, i ∉ ps → ((ps.zip cs).foldl (fun (t : Array Value) x => t.setIfInBounds x.1 x.2) t)[i]? = t[i]?
  | [], cs, t, i, _ => by simp
  | p :: ps, [], t, i, _ => by simp
  | p :: ps, c :: cs, t, i, h => by
    simp only [List.zip_cons_cons, List.foldl_cons]
    simp only [List.mem_cons, not_or] at h
    rw [fold_keep h.2, Array.getElem?_setIfInBounds_ne (fun e => h.1 e.symm)]
theorem To.turn {w W W' : World} {F F' : Nat → Nat → Prop} {G : Nat → Prop} (t : To w F W F') (hT : Turns W W' G) (hG : ∀ b, G b → (∃ i, F i b) ∨ w.heap.size ≤ b) : To w F W' F' :=
  ⟨t.own, t.turns.trans hT hG⟩
theorem rfStart_run {H : Hints} (hI : ISound P H) (hIO : IOSound P H) {w : World} {X : Nat → Prop} {sl sl' : List S} {F : Nat → Nat → Prop} {a : Act} {gv : List Value} (R : Sit P w X sl F a gv) {g : Operand} (hg : OkT a g)
    {f : FuncId} {items : List (List V)} {chk : Bool} (h : rfStart P H g sl = some (f, items, sl', chk)) :
    ∃ (vs : List Value) (encs : List (List Value)) (Fg : Nat → Prop) (Fz F1 : Nat → Nat → Prop) (k : Nat), a.eval g = .func (.func f) #[] vs.toArray ∧ fitsB P f k = true ∧ To w F w Fz ∧ To w Fz w F1 ∧ (∀ b, Fg b → ∃ i, Fz i b) ∧
      (∀ b, Fg b → b < w.heap.size ∧ ¬ X b) ∧ Rel P w (fun b => X b ∨ Fg b) sl' (a.tmps.toList ++ gv) F1 ∧ (chk = false → ∀ b, ¬ Fg b) ∧ (chk = true → sl'.all S.still = true) ∧ encs.length = items.length ∧
      (∀ (i : Nat) (x : List V) (e : List Value), items[i]? = some x → encs[i]? = some e → e.length = x.length ∧ ∀ (k : Nat) (v : V) (c : Value), x[k]? = some v → e[k]? = some c → PRep w (zs w X Fz) (zx w Fz) v c) ∧
      IteratesO P f vs encs w (zx w Fz) Fg := by
  unfold rfStart at h
  split at h
  · rename_i sn f' caps hpv
    split at h
    · rename_i hfit
      split at h
      · rename_i items' hit
        cases h
        have hv := pv_val R hg hpv
        generalize hev : a.eval g = cvg at hv
        cases hv with
        | fn _ _ _ vs hl hcap =>
          obtain ⟨encs, hel, henc, hIt⟩ := hI f caps items hit w (zx w F) vs hl.symm (fun b hb => hb.1) (fun i v c h1 h2 => by
            have := hcap i v c h1 h2
            cases sn
            · exact this.mono (fun _ h => h) zs_zx zs_zx fun _ _ => rfl
            · exact this.mono zs_zx zs_zx (fun _ h => h) fun _ _ => rfl)
          exact ⟨vs, encs, fun _ => False, F, F, _, rfl, hfit, To.refl _ _, To.refl _ _, fun _ h => h.elim, fun _ h => h.elim, R.rel.less fun b hb => hb.elim id False.elim, fun _ _ h => h, fun h => (by cases h), hel,
            fun i x e h1 h2 => ⟨(henc i x e h1 h2).1, fun k v c h3 h4 => ((henc i x e h1 h2).2 k v c h3 h4).mono (fun _ h => h.elim) (fun _ h => h.elim) (fun _ h => h) fun _ _ => rfl⟩, hIt.owned⟩
      · cases h
    · cases h
  · split at h
    · rename_i f' x s1 ht
      split at h
      · rename_i hfit
        rw [Bool.and_eq_true] at hfit
        split at h
        · rename_i items' hit
          cases h
          obtain ⟨Fz, R1, t1⟩ := tk_run R hg ht
          have hh := R1.hand
          obtain ⟨F1, R2, t2⟩ := R1.rel.dropY (fun b => X b ∨ Fz sl'.length b) (fun b hb => hb) R1.ok
          generalize hev : a.eval g = cvg at hh
          cases hh with
          | clo _ _ _ c _ hx =>
            obtain ⟨encs, hel, henc, hIt⟩ := hIO f x items hit w _ _ c _ hx zs_zx (fun b hb => hb.1) fun b hb => ⟨R1.rel.lt _ b hb, fun hz => hz.2 _ hb⟩
            exact ⟨[c], encs, Fz sl'.length, Fz, F1, _, rfl, hfit.1, t1, t2, fun b hb => ⟨_, hb⟩, fun b hb => ⟨R1.rel.lt _ b hb, R1.rel.apart _ b hb⟩, R2, fun h => (by cases h), fun _ => hfit.2, hel, henc, hIt⟩
        · cases h
      · cases h
    · cases h
theorem exec_wp {K : Oracle} {H : Hints} {me : FuncId} (hm : P.follows .mixedOrders = true) (hK : KSound P K) (hH : HSound P H) (hI : ISound P H) (hIO : IOSound P H) {n : Nat} : ∀ (c : Code) (ht : HT), ht.ok n = true → codeOk n c = true → ∀ {X : Nat → Prop} {r : Option Nat} {Wr : Nat → Prop} {t0 : Array Value} {lo : Nat} {w0 : World} {F0 : Nat → Nat → Prop} {Q : Exit → Act → World → Prop} {sl sl' : List S} {e : Ex} {a : Act} {w : World}, lo ≤ w0.heap.size →
    (r = none ∨ noRange c = true) → (∀ d ∈ dstsC c, Wr d) →
    At P X gv n Wr t0 lo w0 F0 sl a w → exec P K H me c ht sl = some (e, sl') → (∀ a' w', At P X gv n Wr t0 lo w0 F0 sl' a' w' → Q (exOf e) a' w') → c.wpIn (FR r) 0 P Q a w := by
  intro c
  induction c with
  | skip =>
    intro ht hto _ X r Wr t0 lo w0 F0 Q sl sl' e a w hlo hr hW hA h hQ
    simp only [exec] at h
    obtain ⟨s1, s2, hpre, h, hpost⟩ := around_run hto h
    cases h
    exact wpIn_skip (hQ a w (hpost _ _ (hpre _ _ hA)))
  | exit id =>
    intro ht hto _ X r Wr t0 lo w0 F0 Q sl sl' e a w hlo hr hW hA h hQ
    simp only [exec] at h
    obtain ⟨s1, s2, hpre, h, hpost⟩ := around_run hto h
    cases h
    exact wpIn_exit (hQ a w (hpost _ _ (hpre _ _ hA)))
  | ret =>
    intro ht hto _ X r Wr t0 lo w0 F0 Q sl sl' e a w hlo hr hW hA h hQ
    simp only [exec] at h
    obtain ⟨s1, s2, hpre, h, hpost⟩ := around_run hto h
    cases h
    exact wpIn_ret (hQ a w (hpost _ _ (hpre _ _ hA)))
  | region id ops draw =>
    intro ht hto hok X r Wr t0 lo w0 F0 Q sl sl' e a w hlo hr hW hA h hQ
    simp only [codeOk] at hok
    have hops : ∀ o ∈ ops.toList, opOk n o = true := fun o ho => Array.all_eq_true'.1 hok o (Array.mem_toList_iff.1 ho)
    simp only [exec] at h
    obtain ⟨s1, s2, hpre, h, hpost⟩ := around_run hto h
    have hA1 := hpre _ _ hA
    split at h
    · rename_i s' hr
      cases h
      have hQ' : ∀ a' w', At P X gv n Wr t0 lo w0 F0 s2 a' w' → Q .normal a' w' := fun a' w' hA' => hQ a' w' (hpost _ _ hA')
      cases draw with
      | false =>
        refine wpIn_region ?_
        have := ops_wp (m := 0) (r := r) hK hH (n := n) (w0 := w0) (F0 := F0) (Q := Q) hops (pick_dsts hW) hQ' ops.toList 0 s1 a w (by simp) hA1 hr
        rw [List.range_eq_range']
        simpa using this
      | true =>
        simp only [if_true] at hr
        unfold runD at hr
        split at hr
        · rename_i ps recs s3 hf hrun
          split at hr
          · rename_i hap
            have hrr : s3 = s2 := Option.some.inj hr
            subst hrr
            refine wpIn_region_any hm ?_
            refine any_wp (me := me) hK hH hops (pick_dsts hW) hQ' hf hap ops.size (List.range ops.toList.length) (Array.replicate ops.size false) s1 a _ (fun i => ?_) List.pairwise_lt_range (by simp) (fun i hi => ?_) (by simp) ?_ (hA1.drawn _)
            · simp only [List.mem_range, Array.length_toList]
              constructor
              · intro h; exact ⟨h, by simp [h]⟩
              · exact fun h => h.1
            · exfalso
              by_cases hlt : i < ops.size
              · simp [hlt] at hi
              · simp [hlt] at hi
            · rw [hrun]
              have hl := runR_len hrun
              congr 1
              congr 1
              apply List.ext_getElem
              · simpa using hl
              · intro k h1 h2
                simp [List.getElem?_eq_getElem h1]
          · cases hr
        · cases hr
    · cases h
  | seq x y ihx ihy =>
    intro ht hto hok X r Wr t0 lo w0 F0 Q sl sl' e a w hlo hr hW hA h hQ
    simp only [codeOk, Bool.and_eq_true] at hok
    simp only [dstsC, List.mem_append] at hW
    have hrx : r = none ∨ noRange x = true := hr.imp id fun h => by simp only [noRange, Bool.and_eq_true] at h; exact h.1
    have hry : r = none ∨ noRange y = true := hr.imp id fun h => by simp only [noRange, Bool.and_eq_true] at h; exact h.2
    simp only [exec] at h
    obtain ⟨s1, s2, hpre, h, hpost⟩ := around_run hto h
    refine wpIn_seq ?_
    split at h
    · rename_i s3 h1
      exact ihx _ (HT.ok_l hto) hok.1 hlo hrx (fun d hd => hW d (.inl hd)) (hpre _ _ hA) h1 fun a1 w1 hA1 => ihy _ (HT.ok_r hto) hok.2 hlo hry (fun d hd => hW d (.inr hd)) hA1 h fun a' w' hA' => hQ a' w' (hpost _ _ hA')
    · rename_i hne
      refine ihx _ (HT.ok_l hto) hok.1 hlo hrx (fun d hd => hW d (.inl hd)) (hpre _ _ hA) h fun a1 w1 hA1 => ?_
      have := hQ a1 w1 (hpost _ _ hA1)
      cases e with
      | normal => exact absurd h (hne _)
      | exit id => exact this
      | ret => exact this
  | cond c x y ihx ihy =>
    intro ht hto hok X r Wr t0 lo w0 F0 Q sl sl' e a w hlo hr hW hA h hQ
    simp only [codeOk, Bool.and_eq_true] at hok
    simp only [dstsC, List.mem_append] at hW
    have hrx : r = none ∨ noRange x = true := hr.imp id fun h => by simp only [noRange, Bool.and_eq_true] at h; exact h.1
    have hry : r = none ∨ noRange y = true := hr.imp id fun h => by simp only [noRange, Bool.and_eq_true] at h; exact h.2
    simp only [exec] at h
    obtain ⟨s1, s2, hpre, h, hpost⟩ := around_run hto h
    have hA1 := hpre _ _ hA
    split at h
    · rename_i t ht'
      obtain ⟨_, F, _, _, _, R, _⟩ := hA1.rel
      have hc : OkT a c := by
        rintro u rfl
        have := hok.1.1
        rw [hA.size]; simpa using this
      have hv := pv_val ⟨R⟩ hc ht'
      have hev : a.eval c = .bool t := by generalize a.eval c = cv at hv; cases hv; rfl
      refine wpIn_cond hev ?_
      cases t
      · exact ihy _ (HT.ok_r hto) hok.2 hlo hry (fun d hd => hW d (.inr hd)) hA1 (by simpa using h) fun a' w' hA' => hQ a' w' (hpost _ _ hA')
      · exact ihx _ (HT.ok_l hto) hok.1.2 hlo hrx (fun d hd => hW d (.inl hd)) hA1 (by simpa using h) fun a' w' hA' => hQ a' w' (hpost _ _ hA')
    · cases h
  | block id b ih =>
    intro ht hto hok X r Wr t0 lo w0 F0 Q sl sl' e a w hlo hr hW hA h hQ
    simp only [codeOk] at hok
    simp only [dstsC] at hW
    have hrb : r = none ∨ noRange b = true := hr.imp (fun h => h) fun h => by simpa only [noRange] using h
    simp only [exec] at h
    obtain ⟨s1, s2, hpre, h, hpost⟩ := around_run hto h
    have hA1 := hpre _ _ hA
    refine wpIn_block ?_
    split at h
    · rename_i j s3 h1
      refine ih _ (HT.ok_l hto) hok hlo hrb hW hA1 h1 fun a1 w1 hA1 => ?_
      simp only [exOf, Exit.inBlock]
      split at h
      · rename_i hj
        cases h
        rw [if_pos hj]; exact hQ a1 w1 (hpost _ _ hA1)
      · rename_i hj
        cases h
        rw [if_neg hj]; exact hQ a1 w1 (hpost _ _ hA1)
    · rename_i hne
      refine ih _ (HT.ok_l hto) hok hlo hrb hW hA1 h fun a1 w1 hA1 => ?_
      have := hQ a1 w1 (hpost _ _ hA1)
      cases e with
      | normal => exact this
      | exit j => exact absurd h (hne _ _)
      | ret => exact this
  | loop b ih =>
    intro ht hto hok X r Wr t0 lo w0 F0 Q sl sl' e a w hlo hr hW hA h hQ
    simp only [codeOk] at hok
    simp only [dstsC] at hW
    have hrb : r = none ∨ noRange b = true := hr.imp (fun h => h) fun h => by simpa only [noRange] using h
    simp only [exec] at h
    obtain ⟨s1, s2, hpre, h, hpost⟩ := around_run hto h
    have hA1 := hpre _ _ hA
    simp only [loopRun] at h
    split at h
    · rename_i hex
      -- rounds still to run
      let J : Nat → Act → World → Prop := fun m a w => ∃ s, iter (exec P K H me b ht.l) m s = some (e, s2) ∧ At P X gv n Wr t0 lo w0 F0 s a w
      have hJ : ∃ m, J m a w := ⟨_, s1, h, hA1⟩
      have hμ : ∀ a w, (∃ m, J m a w) → ∃ m, J m a w ∧ ∀ k, J k a w → m ≤ k := fun a w hh => least _ hh
      refine wpIn_loop (fun a w => ∃ m, J m a w) (fun a w => open Classical in if hh : ∃ m, J m a w then Classical.choose (hμ a w hh) else 0) hJ fun a1 w1 hI => ?_
      obtain ⟨⟨s, hs, hA1⟩, hmin⟩ := Classical.choose_spec (hμ a1 w1 hI)
      simp only [dif_pos hI]
      generalize hm : Classical.choose (hμ a1 w1 hI) = m at hs hmin ⊢
      cases m with
      | zero => simp [iter] at hs
      | succ m =>
        simp only [iter] at hs
        split at hs
        · rename_i s3 h1
          refine ih _ (HT.ok_l hto) hok hlo hrb hW hA1 h1 fun a2 w2 hA2 => ?_
          have hI2 : ∃ m, J m a2 w2 := ⟨m, s3, hs, hA2⟩
          refine ⟨hI2, ?_⟩
          simp only [dif_pos hI2]
          have := (Classical.choose_spec (hμ a2 w2 hI2)).2 m ⟨s3, hs, hA2⟩
          omega
        · rename_i hne
          refine ih _ (HT.ok_l hto) hok hlo hrb hW hA1 hs fun a2 w2 hA2 => ?_
          have := hQ a2 w2 (hpost _ _ hA2)
          cases e with
          | normal => exact absurd hs (hne _)
          | exit j => exact this
          | ret => exact this
    · cases h
  | rangeFunc g ps x b ihx ihb =>
    intro ht hto hok X r Wr t0 lo w0 F0 Q sl sl' e a w hlo hr hW hA h hQ
    have hr : r = none := hr.elim id fun h => by simp [noRange] at h
    subst hr
    simp only [codeOk, Bool.and_eq_true] at hok
    obtain ⟨⟨⟨⟨⟨hg, hps⟩, hnx⟩, hnb⟩, hokx⟩, hokb⟩ := hok
    simp only [exec] at h
    obtain ⟨s1, s2, hpre, h, hpost⟩ := around_run hto h
    have hkf : ∀ y ∈ rfKill ps.toList x b, y.2 = false := fun y hy => by
      simp only [rfKill, List.mem_map] at hy
      obtain ⟨_, _, rfl⟩ := hy; rfl
    have hkok : ((rfKill ps.toList x b).all fun y => !y.2 || decide (y.1 < n)) = true := by
      rw [List.all_eq_true]; intro y hy; simp [hkf y hy]
    split at h
    · rename_i s00 hs0
      have hA0 := (hpre _ _ hA).fix hkok hs0
      split at h
      · rename_i f items s0 chk hst
        obtain ⟨X', F, hX1, hX2, hM, R, t⟩ := hA0.rel
        have hgo : OkT a g := by
          rintro u rfl
          rw [hA.size]; simpa using hg
        obtain ⟨vs, encs, Fg, Fz, F1, kf, hev, hfit, tz0, tz1, hFgz, hFg, R1, hch, hstill, hel, henc, hIt⟩ := rfStart_run hI hIO ⟨R⟩ hgo hst
        have t : To w0 F0 w Fz := t.trans tz0
        -- the loop's record, and the mark's block
        refine wpIn_rangeFunc ?_
        intro fn hfn
        have henter := run_enterLoop_outer (P := P) (w := w) fn a.tmps ps x b
        generalize hrec : (fun (st : LoopState) (pe : Option Code) => ({ state := st, pending := pe, fn, tmps := a.tmps, params := ps, assign := x, body := b, defers := w.heap.size } : Loop)) = rec
        have hrec' : ∀ st pe, ({ state := st, pending := pe, fn, tmps := a.tmps, params := ps, assign := x, body := b, defers := w.heap.size } : Loop) = rec st pe := fun st pe => by rw [← hrec]
        rw [hrec'] at henter
        generalize hW1 : (w.alloc (.deferred (some []))).alloc (.loop (rec .ready none)) = W1 at henter
        have hsz1 : W1.heap.size = w.heap.size + 2 := by rw [← hW1]; simp
        have hold1 : ∀ k, k < w.heap.size → W1.heap[k]? = w.heap[k]? := fun k hk => by
          rw [← hW1]
          exact (RowKit.Below.heap_alloc _ _ _ (by simp; omega)).trans (RowKit.Below.heap_alloc _ _ _ hk)
        have hl1 : W1.heap[w.heap.size + 1]? = some (.loop (rec .ready none)) := by
          rw [← hW1]; have := World.alloc_heap_new (w.alloc (.deferred (some []))) (.loop (rec .ready none)); rwa [World.size_alloc] at this
        have hd1 : W1.heap[w.heap.size]? = some (.deferred (some [])) := by
          rw [← hW1]; exact (RowKit.Below.heap_alloc _ _ _ (by simp)).trans (World.alloc_heap_new w _)
        have hos1 : Turns w W1 (fun _ => False) := by
          refine ⟨?_, ?_, ?_, by omega, fun k hk _ => hold1 k hk⟩ <;> (rw [← hW1]; rfl)
        let X2 : Nat → Prop := fun k => (X' k ∨ Fg k) ∨ k = w.heap.size ∨ k = w.heap.size + 1
        have hw0 : w0.heap.size ≤ w.heap.size := t.turns.size
        have hX12 : ∀ k, X k → X2 k := fun k hk => .inl (.inl (hX1 k hk))
        have hds : ∀ D : Nat, X' D → D < w.heap.size := R.xlt
        have T1 : To w Fz W1 F1 := tz1.trans ⟨fun i k h => .inl ⟨i, h⟩, hos1.mono fun _ h => h.elim⟩
        -- a state between two rounds
        let St : List S → World → Prop := fun s W => (chk = true → s.all S.still = true) ∧ ∃ F', Rel P W X2 s (a.tmps.toList ++ gv) F' ∧ To w0 F0 W F' ∧ To w Fz W F' ∧ Marks lo X' a.defers W ∧ W.heap[w.heap.size]? = some (.deferred (some []))
        have hgz : ∀ b, Fg b → (∃ i, Fz i b) ∨ w.heap.size ≤ b := fun b hb => .inl (hFgz b hb)
        have hg0 : ∀ b, Fg b → (∃ i, F0 i b) ∨ w0.heap.size ≤ b := fun b hb => by obtain ⟨i, hi⟩ := hFgz b hb; exact t.own i b hi
        have hSt : ∀ s W W', St s W → Turns W W' Fg → St s W' := fun s W W' hs hT => by
          obtain ⟨hsS, F', R', t', tz, hM', hD'⟩ := hs
          refine ⟨hsS, F', ?_, t'.turn hT hg0, tz.turn hT hgz, hM'.step fun D hD hh => ?_, by rw [hT.block _ (R'.xlt _ (.inr (.inl rfl))) fun hg => Nat.lt_irrefl _ (hFg _ hg).1]; exact hD'⟩
          · cases hcc : chk with
            | false => exact R'.others (turns_cells (hT.mono fun b hb => hch hcc b hb)) (fun k hk => .inl hk) fun k hk => Nat.lt_of_lt_of_le (R'.xlt k hk) hT.size
            | true => exact R'.turn (hsS hcc) hT.size fun b hb hn => hT.block b hb fun hg => hn (.inl (.inr hg))
          · rw [hT.block _ (Array.getElem?_eq_some_iff.1 hh).1 fun hg => (hFg _ hg).2 hD]; exact hh
        have hput : ∀ {s W} {rr : Loop} (o : Obj), St s W → W.heap[w.heap.size + 1]? = some (.loop rr) → St s (W.putObj (w.heap.size + 1) o) := fun {s W rr} o hs hlp => by
          obtain ⟨hsS, F', R', t', tz, hM', hD'⟩ := hs
          exact ⟨hsS, F', R'.others (put_cells hlp o) (fun k hk => .inl hk) (fun k hk => by rw [World.putObj_size]; exact R'.xlt k hk), t'.put (by omega) o, tz.put (by omega) o, hM'.putLoop hlp o, by rw [World.putObj_heap_other (by omega)]; exact hD'⟩
        have hAt : ∀ {s : List S} {W : World} (jump : Bool), St s W → W.heap[w.heap.size]? = some (.deferred (some [])) → At P X gv n Wr t0 lo w0 F0 s { a with defers := [markOf w.heap.size] ++ a.defers } W := fun {s W} _ hs _ => by
          obtain ⟨_, F', R', t', tz, hM', hD'⟩ := hs
          refine ⟨hA0.size, hA0.keep, X2, F', hX12, trivial, ?_, R', t'⟩
          obtain ⟨Ds, e1, e2, e3⟩ := hM'
          obtain ⟨Ds', e1', e2', e3'⟩ := hM
          have hDs : Ds = Ds' := by
            have : Ds.map markOf = Ds'.map markOf := e1.symm.trans e1'
            exact marks_inj this
          subst hDs
          refine ⟨w.heap.size :: Ds, by rw [List.map_cons, ← e1]; rfl, List.nodup_cons.2 ⟨fun hm => ?_, e2⟩, fun D hD => ?_⟩
          · have := hds _ (e3' _ hm).1; omega
          · rcases List.mem_cons.1 hD with rfl | hD
            · exact ⟨.inr (.inl rfl), hD', by omega⟩
            · exact ⟨.inl (.inl (e3 D hD).1), (e3 D hD).2⟩
        refine ⟨w.heap.size + 1, [markOf w.heap.size], W1, { target := .fn (.func f) vs.toArray, args := #[.func (.yield (w.heap.size + 1)) #[] #[]] }, W1, f,
          #[.func (.yield (w.heap.size + 1)) #[] #[]] ++ vs.toArray, W1, henter, ?_, fun _ _ => trivial, ?_, fun h => (by cases h), ?_⟩
        · simp only [resolve, hev]
          simp [go_sem]
        · have eg : ∀ args w, (callFunc f args).run P w = .ok (.enter f args) w := fun args w => by
            unfold fitsB slotsOf at hfit
            split at hfit
            · rename_i k hk
              split at hk
              · rename_i fnf hff
                split at hk
                · rename_i hh
                  simp only [Bool.and_eq_true, bne_iff_ne, ne_eq] at hh
                  obtain ⟨c0, hc0⟩ := Option.isSome_iff_exists.1 hh.1
                  simp [callFunc, hff, hh.2, hc0, mark, Sem.run]
                · cases hk
              · cases hk
            · cases hfit
          simp [invoke, go_sem, eg]
        · refine (hIt (w.heap.size + 1)
            (fun k W => (∃ s, rfRun P chk (rfKill ps.toList x b) ps.toList (exec P K H me x ht.l) (exec P K H me b ht.r) (items.drop k) s = some (e, s2) ∧ St s W) ∧ W.heap[w.heap.size + 1]? = some (.loop (rec .ready none)))
            (fun W => ∃ c : Code, ((c = .ret ∧ e = .ret) ∨ ∃ id, c = .exit id ∧ e = .exit id) ∧ St s2 W ∧ W.heap[w.heap.size + 1]? = some (.loop (rec .done (some c))))
            W1 (by omega) (fun b hb => hold1 b (hFg b hb).1) ?_ ?_ ?_ ?_ ?_).mono ?_
          · rintro k A B ⟨⟨s, hs, hst⟩, hlp⟩ hT
            exact ⟨⟨s, hs, hSt _ _ _ hst hT⟩, by rw [hT.block _ (Array.getElem?_eq_some_iff.1 hlp).1 fun hg => by have := (hFg _ hg).1; omega]; exact hlp⟩
          · rintro A B ⟨c, hc, hst, hlp⟩ hT
            exact ⟨c, hc, hSt _ _ _ hst hT, by rw [hT.block _ (Array.getElem?_eq_some_iff.1 hlp).1 fun hg => by have := (hFg _ hg).1; omega]; exact hlp⟩
          · rintro k A ⟨⟨s, hs, hst⟩, hlp⟩
            obtain ⟨_, F', R', t', tz, hM', hD'⟩ := hst
            refine ⟨?_, fun k hk => tz.stay k hk⟩
            have := (Array.getElem?_eq_some_iff.1 hlp).1
            omega
          · -- one round
            rintro k enc W hk ⟨⟨s, hs, hst⟩, hlp⟩
            have hki : k < items.length := by rw [← hel]; exact (List.getElem?_eq_some_iff.1 hk).1
            have hx : items[k]? = some items[k] := List.getElem?_eq_getElem hki
            rw [List.drop_eq_getElem_cons hki] at hs
            obtain ⟨hle, hpe⟩ := henc k _ enc hx hk
            generalize items[k] = xi at hs hle hpe
            simp only [rfRun] at hs
            split at hs
            · rename_i s3 hset
              split at hs
              · rename_i s4 hfa
                split at hs
                · rename_i e5 s5 hfb
                  split at hs
                  · rename_i s6 hfix
                    split at hs
                    case isFalse => cases hs
                    rename_i hck
                    obtain ⟨_, F', R', t', tz, hM', hD'⟩ := hst
                    obtain ⟨hpl, F3, R3, t3⟩ := setPs_run (cs := enc) hset hle R' (fun j v c h1 h2 F2 hF2 => (hpe j v c h1 h2).mono zs_zx (fun k hk => ⟨hF2 k (tz.zx k hk.1), fun hx => by
                      rcases hx with (hx | hx) | hx
                      · exact hk.2 hx
                      · obtain ⟨i, hi⟩ := hFgz k hx; exact hk.1.2 i hi
                      · have := hk.1.1; omega⟩) (fun k hk => hF2 k (tz.zx k hk)) fun k hk => tz.stay k hk)
                    have hy := run_yield (P := P) (args := enc.toArray) hlp (by rw [← hrec]; simp only [Array.length_toList] at hpl; simp only [List.size_toArray]; omega)
                    have hpsn : ∀ p ∈ ps.toList, p < a.tmps.size := fun p hp => by rw [hA0.size]; simpa using List.all_eq_true.1 hps p hp
                    have hfold : (rec .ready none).params.zip enc.toArray = (ps.toList.zip enc).toArray := by rw [← hrec]; apply Array.ext'; simp
                    refine ⟨fn, ((rec .ready none).params.zip enc.toArray).foldl (fun tmps (t, a) => tmps.setIfInBounds t a) (rec .ready none).tmps, x, b, ?_, roundIn_of_wpIn (F := Fence.wide) trivial ?_⟩
                    · rw [hy, ← hrec]
                    have htm : ((rec .ready none).params.zip enc.toArray).foldl (fun tmps (t, a) => tmps.setIfInBounds t a) (rec .ready none).tmps = (ps.toList.zip enc).foldl (fun (t : Array Value) y => t.setIfInBounds y.1 y.2) a.tmps := by
                      rw [hfold, List.foldl_toArray']
                      · rw [← hrec]
                      · simp
                    rw [htm]
                    -- the round's own slots
                    have hloW : lo ≤ W.heap.size := by have := tz.turns.size; omega
                    let WK : Nat → Prop := fun i => (i, false) ∈ rfKill ps.toList x b
                    have hWx : ∀ d ∈ dstsC x, WK d := fun d hd => by simp only [WK, rfKill, List.mem_map]; exact ⟨d, by simp [hd], rfl⟩
                    have hWb : ∀ d ∈ dstsC b, WK d := fun d hd => by simp only [WK, rfKill, List.mem_map]; exact ⟨d, by simp [hd], rfl⟩
                    have hWp : ∀ d ∈ ps.toList, WK d := fun d hd => by simp only [WK, rfKill, List.mem_map]; exact ⟨d, by simp [Array.mem_toList_iff.1 hd], rfl⟩
                    have hA3 : At P X2 gv n WK a.tmps lo W F' s3 { tmps := (ps.toList.zip enc).foldl (fun (t : Array Value) y => t.setIfInBounds y.1 y.2) a.tmps, defers := [] } W :=
                      ⟨by rw [fold_size]; exact hA0.size, fun i hi => fold_keep fun hp => hi (hWp i hp), X2, F3, fun _ h => h, trivial, Marks.nil, by rw [fold_toList hpsn]; exact R3, t3⟩
                    refine ihx ht.l (HT.ok_l hto) hokx hloW (r := some (w.heap.size + 1)) (.inr hnx) hWx hA3 hfa fun a1 w1 hA4 => ?_
                    obtain ⟨X4, F4, hX41, hX42, hM4, R4, t4⟩ := hA4.rel
                    have hl2 : X2 (w.heap.size + 1) := .inr (.inr rfl)
                    have hlp4 : w1.heap[w.heap.size + 1]? = some (.loop (rec .ready none)) := (t4.leaves R' hl2).trans hlp
                    have hD4 : w1.heap[w.heap.size]? = some (.deferred (some [])) := (t4.leaves R' (.inr (.inl rfl))).trans hD'
                    have hM4' : Marks lo X' a.defers w1 := hM'.step fun D hD hh => (t4.leaves R' (.inl (.inl hD))).trans hh
                    refine ⟨_, run_beginRound hlp4 (by rw [← hrec]), ?_⟩
                    have hbusy : (rec .ready none) = (rec .ready none) := rfl
                    have hlp5 : (w1.putObj (w.heap.size + 1) (.loop { rec .ready none with state := .busy })).heap[w.heap.size + 1]? = some (.loop { rec .ready none with state := .busy }) := World.putObj_heap_same (Array.getElem?_eq_some_iff.1 hlp4).1
                    have R5 : Rel P (w1.putObj (w.heap.size + 1) (.loop { rec .ready none with state := .busy })) X4 s4 (a1.tmps.toList ++ gv) F4 := R4.others (put_cells hlp4 _) (fun k hk => .inl hk) fun k hk => by rw [World.putObj_size]; exact R4.xlt k hk
                    have hloB : lo ≤ (w1.putObj (w.heap.size + 1) (.loop { rec .ready none with state := .busy })).heap.size := by rw [World.putObj_size]; have := t4.turns.size; omega
                    have hA5 : At P X4 gv n WK a.tmps lo (w1.putObj (w.heap.size + 1) (.loop { rec .ready none with state := .busy })) F4 s4 a1 (w1.putObj (w.heap.size + 1) (.loop { rec .ready none with state := .busy })) :=
                      ⟨hA4.size, hA4.keep, X4, F4, fun _ h => h, trivial, hM4.putLoop hlp4 _, R5, To.refl _ _⟩
                    refine ihb ht.r (HT.ok_r hto) hokb hloB (r := some (w.heap.size + 1)) (.inr hnb) hWb hA5 hfb fun a3 w3 hA6 => ?_
                    obtain ⟨X7, F7, hX71, hX72, hM7, R7, t7⟩ := (hA6.fix hkok hfix).rel
                    -- behind the round the slots are the loop's own again
                    have hRd : Rel P w3 X7 s6 (a.tmps.toList ++ gv) F7 := R7.deads (by simp [hA6.size, hA0.size]) fun i => by
                      by_cases hi : WK i
                      · exact .inl (fixS_dead hkf hfix hi)
                      · right
                        by_cases hin : i < n
                        · rw [List.getElem?_append_left (by simpa [hA0.size] using hin), List.getElem?_append_left (by simpa [hA6.size] using hin)]
                          have := hA6.keep i hi
                          simpa using this.symm
                        · rw [List.getElem?_append_right (by simpa [hA0.size] using hin), List.getElem?_append_right (by simpa [hA6.size] using hin)]
                          simp [hA0.size, hA6.size]
                    have hX27 : ∀ k, X2 k → X7 k := fun k hk => hX71 k (hX41 k hk)
                    have hst' : St s6 w3 := by
                      have tA : To w0 F0 (w1.putObj (w.heap.size + 1) (.loop { rec .ready none with state := .busy })) F4 := (t'.trans t4).put (by omega) _
                      have tB : To w Fz (w1.putObj (w.heap.size + 1) (.loop { rec .ready none with state := .busy })) F4 := (tz.trans t4).put (by omega) _
                      refine ⟨fun hc => by rw [hc] at hck; simpa using hck, F7, hRd.less hX27, tA.trans t7, tB.trans t7, ?_, ?_⟩
                      · exact (((hM4'.putLoop hlp4 (.loop { rec .ready none with state := .busy }))).to (R5.less fun b hb => hX41 b (.inl (.inl hb))) t7)
                      · rw [t7.leaves R5 (hX41 _ (.inr (.inl rfl))), World.putObj_heap_other (by omega)]; exact hD4
                    have hlp7 : w3.heap[w.heap.size + 1]? = some (.loop { rec .ready none with state := .busy }) := (t7.leaves R5 (hX41 _ hl2)).trans hlp5
                    have hfg7 : ∀ (o : Obj) (b : Nat), Fg b → (w3.putObj (w.heap.size + 1) o).heap[b]? = W.heap[b]? := fun o b hb => by
                      have := (hFg b hb).1
                      rw [World.putObj_heap_other (by omega), t7.leaves R5 (hX41 _ (.inl (.inr hb))), World.putObj_heap_other (by omega), t4.leaves R' (.inl (.inr hb))]
                    have hend : ∀ jump : Option Code, (Instr.endRound (w.heap.size + 1) jump).run P w3 = .ok (.bool jump.isNone) (w3.putObj (w.heap.size + 1) (.loop (rec (if jump.isNone then .ready else .done) jump))) ∧
                        (w3.putObj (w.heap.size + 1) (.loop (rec (if jump.isNone then .ready else .done) jump))).heap[w.heap.size + 1]? = some (.loop (rec (if jump.isNone then .ready else .done) jump)) := fun jump => by
                      refine ⟨?_, World.putObj_heap_same (Array.getElem?_eq_some_iff.1 hlp7).1⟩
                      have := run_endRound (P := P) jump hlp7
                      rw [this, ← hrec]
                    cases e5 with
                    | normal =>
                      simp only at hs
                      obtain ⟨hr1, hr2⟩ := hend none
                      exact ⟨_, _, hr1, hfg7 _, .inl ⟨rfl, ⟨s6, hs, hput _ hst' hlp7⟩, hr2⟩⟩
                    | exit id =>
                      simp only [Option.some.injEq, Prod.mk.injEq] at hs
                      obtain ⟨rfl, rfl⟩ := hs
                      obtain ⟨hr1, hr2⟩ := hend (some (.exit id))
                      exact ⟨_, _, hr1, hfg7 _, .inr ⟨rfl, .exit id, .inr ⟨id, rfl, rfl⟩, hput _ hst' hlp7, hr2⟩⟩
                    | ret =>
                      simp only [Option.some.injEq, Prod.mk.injEq] at hs
                      obtain ⟨rfl, rfl⟩ := hs
                      obtain ⟨hr1, hr2⟩ := hend (some .ret)
                      exact ⟨_, _, hr1, hfg7 _, .inr ⟨rfl, .ret, .inl ⟨rfl, rfl⟩, hput _ hst' hlp7, hr2⟩⟩
                  · cases hs
                · cases hs
              · cases hs
            · cases hs
          · refine ⟨⟨s0, by simpa using h, hstill, F1, R1.others ⟨by omega, fun k vs ty fz hk => by rw [hold1 k (Array.getElem?_eq_some_iff.1 hk).1]; exact hk⟩ (fun k hk => ?_) (fun k hk => ?_), t.trans T1, T1, ?_, hd1⟩, hl1⟩
            · rcases hk with h | h | h
              · exact .inl h
              · exact .inr (by omega)
              · exact .inr (by omega)
            · rcases hk with (h | h) | h | h
              · have := hds k h; omega
              · have := (hFg k h).1; omega
              · omega
              · omega
            · obtain ⟨Ds, e1, e2, e3⟩ := hM
              exact ⟨Ds, e1, e2, fun D hD => ⟨(e3 D hD).1, by rw [hold1 D (hds D (e3 D hD).1)]; exact (e3 D hD).2.1, (e3 D hD).2.2⟩⟩
          · -- behind the iterator
            rintro e' W2 ⟨⟨v, rfl⟩, (⟨⟨s, hs, hst⟩, hlp⟩ | ⟨c, hc, hst, hlp⟩)⟩
            · rw [hel, List.drop_length] at hs
              simp only [rfRun, Option.some.injEq, Prod.mk.injEq] at hs
              obtain ⟨rfl, rfl⟩ := hs
              refine ⟨none, W2.putObj (w.heap.size + 1) (.loop { rec .ready none with state := .exhausted }), ?_, ?_⟩
              · have := run_endLoop (P := P) hlp (by rw [← hrec]; simp)
                rw [this, ← hrec]
              · exact hQ _ _ (hpost _ _ (hAt true (hput _ hst hlp) (by obtain ⟨_, _, _, _, _, _, hD'⟩ := hput (.loop { rec .ready none with state := .exhausted }) hst hlp; exact hD')))
            · refine ⟨some c, W2.putObj (w.heap.size + 1) (.loop { rec .done (some c) with state := .exhausted }), ?_, ?_⟩
              · have := run_endLoop (P := P) hlp (by rw [← hrec]; simp)
                rw [this, ← hrec]
              · have hq := hQ _ _ (hpost _ _ (hAt true (hput (.loop { rec .done (some c) with state := .exhausted }) hst hlp) (by obtain ⟨_, _, _, _, _, _, hD'⟩ := hput (.loop { rec .done (some c) with state := .exhausted }) hst hlp; exact hD')))
                rcases hc with ⟨rfl, rfl⟩ | ⟨id, rfl, rfl⟩
                · exact wpIn_ret hq
                · exact wpIn_exit hq
      · cases h
    · cases h
  | _ => intro ht hto _ X r Wr t0 lo w0 F0 Q sl sl' e a w hlo hr hW hA h hQ; simp only [exec] at h; cases h
end
end Go.Proofs.Ytffofdfikmpanaa.A
namespace Go.Proofs.Ytffofdfikmpanaa.A
set_option linter.unusedVariables false
set_option linter.unusedSimpArgs false
section
variable {P : Program} {X : Nat → Prop} {w : World} {sl : List S} {F : Nat → Nat → Prop} {a : Act} {gv : List Value}
theorem tup_snoc {Zs Zx : Nat → Prop} {acc : List T} {cs : List Value} {x : T} {c : Value} {F0 G : Nat → Prop} (h : TRep P w Zs Zx none (.tup acc) (.tuple cs.toArray) F0) (hx : TRep P w Zs Zx none x c G) (hd : ∀ b, F0 b → ¬ G b) :
    TRep P w Zs Zx none (.tup (acc ++ [x])) (.tuple (cs ++ [c]).toArray) (fun b => F0 b ∨ G b) := by
  generalize hv : Value.tuple cs.toArray = cv at h
  cases h with
  | tup me acc vs F G' hl h hF hdj =>
    have hvs : vs = cs := by injection hv with hv; simpa using hv.symm
    subst hvs
    refine .tup none _ _ _ (fun i => if i < acc.length then G' i else G) (by simp [hl]) (fun i t d hi hc => ?_) (fun b => ?_) (fun i j b hi hj h1 h2 => ?_)
    · by_cases hlt : i < acc.length
      · rw [List.getElem?_append_left hlt] at hi
        rw [List.getElem?_append_left (by omega)] at hc
        simp only [if_pos hlt]; exact h i t d hi hc
      · have he : i = acc.length := by have := (List.getElem?_eq_some_iff.1 hi).1; simp at this; omega
        subst he
        simp at hi
        rw [List.getElem?_append_right (by omega)] at hc
        simp [hl] at hc
        subst hi; subst hc
        simpa using hx
    · constructor
      · rintro (hb | hb)
        · obtain ⟨i, hi, hb⟩ := (hF b).1 hb
          exact ⟨i, by simp; omega, by simp only [if_pos hi]; exact hb⟩
        · exact ⟨acc.length, by simp, by simpa using hb⟩
      · rintro ⟨i, hi, hb⟩
        by_cases hlt : i < acc.length
        · simp only [if_pos hlt] at hb; exact .inl ((hF b).2 ⟨i, hlt, hb⟩)
        · simp only [if_neg hlt] at hb; exact .inr hb
    · simp at hi hj
      by_cases hi' : i < acc.length <;> by_cases hj' : j < acc.length
      · simp only [if_pos hi', if_pos hj'] at h1 h2; exact hdj i j b hi' hj' h1 h2
      · simp only [if_pos hi', if_neg hj'] at h1 h2; exact (hd b ((hF b).2 ⟨i, hi', h1⟩) h2).elim
      · simp only [if_neg hi', if_pos hj'] at h1 h2; exact (hd b ((hF b).2 ⟨j, hj', h2⟩) h1).elim
      · omega
theorem HRel.moreNode {cv : List Value} {acc : List T} {cs : List Value} (R : HRel P w X sl cv (.tup acc) (.tuple cs.toArray) F) {p : Pl} {y0 x : T} {c : Value} {sl1 : List S} (hz : slAt sl p = some y0) (hp : putN sl p .dead false = some sl1)
    (hx : ∀ me cz G, cvAt w cv p = some cz → TRep P w (zs w X F) (zx w F) me y0 cz G → ∃ G', TRep P w (zs w X F) (zx w F) none x c G' ∧ ∀ b, G' b → G b) :
    ∃ F', HRel P w X sl1 cv (.tup (acc ++ [x])) (.tuple (cs ++ [c]).toArray) F' ∧ To w F w F' := by
  obtain ⟨me, cz, G, hcz, hT, hsub, hGn, hput⟩ := R.node2 hz
  obtain ⟨G', hG', hs⟩ := hx me cz G hcz hT
  exact hput w .dead (.tup (acc ++ [x])) (.tuple (cs ++ [c]).toArray) (fun _ => False) (fun b => F sl.length b ∨ G' b) false sl1 hp (Turns.refl _ _) (fun _ h => h.elim) (fun b hb => hb.elim (fun h => .inl (.inr h)) fun h => .inl (.inl (hs b h)))
    (fun b hb => hb.elim False.elim fun hb => hb.elim (R.rel.lt _ b) fun h => R.rel.lt _ b (hsub b (hs b h))) (fun _ h => h.elim)
    (fun Zs Zx hs' hx' _ => ⟨.dead _ _ _ fun _ => id, tup_snoc (R.hand.mono zs_zx hs' hx' fun _ _ => rfl) (hG'.mono zs_zx hs' hx' fun _ _ => rfl) fun b h1 h2 => hGn b (hs b h2) h1⟩) (by simp) (by simp)
theorem HRel.morePure {cv : List Value} {acc : List T} {cs : List Value} (R : HRel P w X sl cv (.tup acc) (.tuple cs.toArray) F) {v : V} {c : Value} (hv : PRep w (zs w X F) (zx w F) v c) :
    ∃ F', HRel P w X sl cv (.tup (acc ++ [.p v])) (.tuple (cs ++ [c]).toArray) F' ∧ To w F w F' :=
  R.swap _ _ (F sl.length) (Turns.refl _ _) (fun b hb => .inl hb) (R.rel.lt _) fun Zs Zx hs hx _ =>
    (tup_snoc (R.hand.mono zs_zx hs hx fun _ _ => rfl) (.p none v c (fun _ => False) (hv.mono zs_zx hs hx fun _ _ => rfl) fun _ => id) fun _ _ => id).iff fun b => by simp
def resV (a : Act) : ResultVar → Sem Value
  | .tmp t => pure (a.tmps.getD t undef)
  | .cell u ty => do loadVar ty (← asAddr (a.tmps.getD u undef))
theorem retT_run {n : Nat} (hn : a.tmps.size = n) {acc : List T} {cs : List Value} (R : HRel P w X sl (a.tmps.toList ++ gv) (.tup acc) (.tuple cs.toArray) F) {v : ResultVar} (hv : resOk n [v] = true) {x : T} {sl1 : List S} (h : retT P n sl v = some (x, sl1)) :
    x.stab = true ∧ ∃ c F', (resV a v).run P w = .ok c w ∧ HRel P w X sl1 (a.tmps.toList ++ gv) (.tup (acc ++ [x])) (.tuple (cs ++ [c]).toArray) F' ∧ To w F w F' := by
  -- a slot of the frame, behind which the hand stands
  have slot : ∀ {t : Nat} {s : S}, t < n → sl[t]? = some s → SRep P w (zs w X F) (zx w F) (sl ++ [.t (.tup acc)]) (a.tmps.toList ++ gv ++ [.tuple cs.toArray]) s (a.eval (.tmp t)) (F t) := by
    intro t s ht hs
    have hlt := (List.getElem?_eq_some_iff.1 hs).1
    have := eval_tmp (a := a) (t := t) (by rw [hn]; exact ht) gv
    exact R.rel.slot t s _ (by rw [List.getElem?_append_left hlt]; exact hs) (by rw [List.getElem?_append_left (by have := R.len; omega)]; exact this)
  have near : ∀ {q : Pl} {z : T} {cz : Value}, q.s < sl.length → slAt (sl ++ [.t (.tup acc)]) q = some z → cvAt w (a.tmps.toList ++ gv ++ [.tuple cs.toArray]) q = some cz → slAt sl q = some z ∧ cvAt w (a.tmps.toList ++ gv) q = some cz := by
    intro q z cz hq hz hc
    simp only [slAt, cvAt] at *
    rw [List.getElem?_append_left hq] at hz
    rw [List.getElem?_append_left (by have := R.len; omega)] at hc
    exact ⟨hz, hc⟩
  cases v with
  | tmp t =>
    have ht : t < n := by simpa [resOk] using hv
    have hr : (resV a (.tmp t)).run P w = .ok (a.eval (.tmp t)) w := rfl
    simp only [retT] at h
    split at h
    · rename_i v hs
      split at h
      · rename_i hst
        cases h
        have h0 : TRep P w (zs w X F) (zx w F) none (.p v) (a.eval (.tmp t)) (F t) := slot ht hs
        have hp : PRep w (zs w X F) (zx w F) v (a.eval (.tmp t)) := by cases h0; assumption
        obtain ⟨F', R', t'⟩ := R.morePure hp
        exact ⟨hst, _, F', hr, R', t'⟩
      · cases h
    · cases h
    · cases h
    · rename_i y hn1 hn2 hn3 hs
      split at h
      · rename_i hst
        cases h
        have hpn : putN sl ⟨t, []⟩ .dead false = some ((killP ⟨t, []⟩ false sl).set t (.t .dead)) := by simp [putN, hs, T.put]
        have hself : x ≠ .self := fun e => hn3 (by rw [e])
        obtain ⟨F', R', t'⟩ := R.moreNode (x := x) (c := a.eval (.tmp t)) (slAt_nil hs) hpn fun me cz G hcz hT => by
          rw [cvAt_nil (eval_tmp (a := a) (t := t) (by rw [hn]; exact ht) gv)] at hcz
          cases hcz
          exact ⟨G, hT.anyMe hself, fun _ h => h⟩
        exact ⟨hst, _, F', hr, R', t'⟩
      · cases h
    · rename_i p off len ex hs
      split at h
      · rename_i hps
        split at h
        · rename_i ty es hz
          split at h
          · rename_i sl2 hp
            cases h
            obtain ⟨_, q, z, cz', hq, hz', hcz', hb⟩ := slot ht hs
            cases hq
            have hpl : p.s < sl.length := by
              simp only [slAt] at hz
              cases hs0 : sl[p.s]? with
              | none => simp [hs0] at hz
              | some s => exact (List.getElem?_eq_some_iff.1 hs0).1
            obtain ⟨hz', hcz'⟩ := near hpl hz' hcz'
            rw [hz] at hz'; cases hz'
            obtain ⟨F', R', t'⟩ := R.moreNode (x := .own ty ((es.drop off).take len)) (c := a.eval (.tmp t)) hz hp fun me cz G hcz hT => by
              rw [hcz'] at hcz; cases hcz
              exact own_sub hT hb
            exact ⟨rfl, _, F', hr, R', t'⟩
          · cases h
        · cases h
      · cases h
    · rename_i p hs
      split at h
      · rename_i hps
        split at h
        · rename_i ty cs' hz
          split at h
          · rename_i hst
            split at h
            · rename_i sl2 hp
              cases h
              obtain ⟨_, q, z, cz', hq, hz', hcz', hb⟩ := slot ht hs
              cases hq
              have hpl : p.s < sl.length := by
                simp only [slAt] at hz
                cases hs0 : sl[p.s]? with
                | none => simp [hs0] at hz
                | some s => exact (List.getElem?_eq_some_iff.1 hs0).1
              obtain ⟨hz', hcz'⟩ := near hpl hz' hcz'
              rw [hz] at hz'; cases hz'
              obtain ⟨F', R', t'⟩ := R.moreNode (x := .opt ty cs') (c := a.eval (.tmp t)) hz hp fun me cz G hcz hT => by
                rw [hcz'] at hcz; cases hcz
                rcases hb with ⟨_, _, _, _, _, _, he, _⟩ | ⟨_, _, b, _, rfl, _, hc⟩
                · cases he
                · rw [hc]; exact ⟨G, hT.anyMe (by simp), fun _ h => h⟩
              exact ⟨by simpa [T.stab] using hst, _, F', hr, R', t'⟩
            · cases h
          · cases h
        · cases h
      · cases h
    · cases h
  | cell t ty =>
    have ht : t < n := by simpa [resOk] using hv
    simp only [retT] at h
    split at h
    · rename_i ty' ts hs
      have hT0 : TRep P w (zs w X F) (zx w F) none (.opt ty' ts) (a.eval (.tmp t)) (F t) := slot ht hs
      have hev : a.tmps.getD t undef = a.eval (.tmp t) := rfl
      have hpn : putN sl ⟨t, []⟩ .dead false = some ((killP ⟨t, []⟩ false sl).set t (.t .dead)) := by simp [putN, hs, T.put]
      generalize hc : a.eval (.tmp t) = cc at hT0
      generalize hFt : F t = Ft at hT0
      cases hT0 with
      | opt me _ _ b vs _ G hw hl hone hrep hF hb hd =>
        have hcvt : cvAt w (a.tmps.toList ++ gv) ⟨t, []⟩ = some (.pointer (some ⟨b, 0, none⟩)) := by
          rw [← hc]; exact cvAt_nil (eval_tmp (a := a) (t := t) (by rw [hn]; exact ht) gv)
        have haddr : ∀ c, (loadVar ty ⟨b, 0, none⟩).run P w = .ok c w → (resV a (.cell t ty)).run P w = .ok c w := fun c hcr => by
          simp [resV, hev, hc, asAddr, hcr]
        split at h
        · rename_i hagg
          split at h
          · rename_i hh
            obtain ⟨hsz, hpos, hst, hself⟩ := hh
            have hrun := haddr _ (run_loadVarN hagg (by omega) (cs := vs.toList) (by simp [← hl, hsz]) fun k v hk => by rw [add_at, Nat.zero_add, cell_row hw]; simpa using hk)
            split at h
            · rename_i l hpu
              cases h
              obtain ⟨hpl, hpg⟩ := pures_get hpu
              have hval : ∀ (i : Nat) (v : V) (d : Value), l[i]? = some v → vs.toList[i]? = some d → v.one = true ∧ v.stab = true ∧ PRep w (zs w X F) (zx w F) v d := fun i v d h1 h2 => by
                have h3 := hpg i v h1
                have h4 := hrep i _ d h3 (by simpa using h2)
                have h5 := stabT_get hst i _ h3
                refine ⟨hone i v h3, by simpa [T.stab] using h5, ?_⟩
                cases h4; assumption
              obtain ⟨F', R', t'⟩ := R.morePure (.agg l vs.toList (by simp [← hl, hpl]) (fun i v h1 => (hval i v _ h1 (List.getElem?_eq_getElem (show i < vs.toList.length by have := (List.getElem?_eq_some_iff.1 h1).1; simp; omega))).1)
                fun i v d h1 h2 => (hval i v d h1 h2).2.2)
              refine ⟨?_, _, F', hrun, R', t'⟩
              have : ∀ (l : List V), (∀ v ∈ l, v.stab = true) → V.stabL l = true := by
                intro l
                induction l with
                | nil => intro _; rfl
                | cons v l ih => intro h; simp only [V.stabL, Bool.and_eq_true]; exact ⟨h v (by simp), ih fun u hu => h u (by simp [hu])⟩
              simp only [T.stab, V.stab]
              exact this l fun v hv => by
                obtain ⟨i, hi⟩ := List.getElem?_of_mem hv
                have := stabT_get hst i _ (hpg i v hi)
                simpa [T.stab] using this
            · cases h
              obtain ⟨F', R', t'⟩ := R.moreNode (x := .agg ts) (c := .agg vs.toList.toArray) (slAt_nil hs) hpn fun me cz G1 hcz hT => by
                rw [hcvt] at hcz; cases hcz
                cases hT with
                | opt me _ _ b vs' _ G hw' hl hone hrep hF hb hd =>
                  rw [hw] at hw'; cases hw'
                  refine ⟨fun x => ∃ i, i < ts.length ∧ G i x, .agg none ts vs.toList _ G (by simpa using hl) hone (fun i y d hi hd => (hrep i y d hi (by simpa using hd)).anyMe (by
                    rintro rfl
                    have := List.any_eq_false.1 hself _ (List.mem_of_getElem? hi)
                    simp [T.isSelf] at this)) (fun _ => Iff.rfl) hd, fun x hx => (hF x).2 (.inr hx)⟩
              exact ⟨by simpa [T.stab] using hst, _, F', hrun, R', t'⟩
          · cases h
        · split at h
          · rename_i hagg
            split at h
            · rename_i y
              split at h
              · rename_i hst
                cases h
                obtain ⟨v0, hv0⟩ : ∃ v0, vs[0]? = some v0 := ⟨_, Array.getElem?_eq_getElem (show 0 < vs.size by rw [← hl]; simp)⟩
                have hrun := haddr _ (run_loadVar1 hagg (c := v0) (by rw [cell_row hw]; exact hv0))
                obtain ⟨F', R', t'⟩ := R.moreNode (x := x) (c := v0) (slAt_nil hs) hpn fun me cz G1 hcz hT => by
                  rw [hcvt] at hcz; cases hcz
                  cases hT with
                  | opt me _ _ b vs' _ G hw' hl hone hrep hF hb hd =>
                    rw [hw] at hw'; cases hw'
                    exact ⟨G 0, (hrep 0 x _ rfl hv0).anyMe (by rintro rfl; simp [T.isSelf] at hst), fun b hb => (hF b).2 (.inr ⟨0, by simp, hb⟩)⟩
                exact ⟨hst.1, _, F', hrun, R', t'⟩
              · cases h
            · cases h
          · cases h
    · cases h
end
end Go.Proofs.Ytffofdfikmpanaa.A
namespace Go.Proofs.Ytffofdfikmpanaa.A
set_option linter.unusedVariables false
set_option linter.unusedSimpArgs false
section
variable {P : Program} {X : Nat → Prop} {w : World} {sl : List S} {F : Nat → Nat → Prop} {a : Act} {gv : List Value}
theorem retAll_run {n : Nat} (hn : a.tmps.size = n) : ∀ {vs : List ResultVar} {acc xs : List T} {cs : List Value} {sl sl' : List S} {F : Nat → Nat → Prop}, HRel P w X sl (a.tmps.toList ++ gv) (.tup acc) (.tuple cs.toArray) F → resOk n vs = true → retAll P n sl vs = some (xs, sl') →
    ∃ ds F', ds.length = vs.length ∧ xs.length = vs.length ∧ (vs.mapM (resV a)).run P w = .ok ds w ∧ HRel P w X sl' (a.tmps.toList ++ gv) (.tup (acc ++ xs)) (.tuple (cs ++ ds).toArray) F' ∧ To w F w F' ∧ ∀ x ∈ xs, x.stab = true
  | [], acc, xs, cs, sl, sl', F, R, _, h => by
    simp only [retAll, Option.some.injEq, Prod.mk.injEq] at h
    obtain ⟨rfl, rfl⟩ := h
    exact ⟨[], F, rfl, rfl, rfl, by simpa using R, To.refl _ _, by simp⟩
  | v :: vs, acc, xs, cs, sl, sl', F, R, hok, h => by
    simp only [retAll] at h
    have hok' : resOk n [v] = true ∧ resOk n vs = true := by
      simp only [resOk, List.all_cons, List.all_nil, Bool.and_true, Bool.and_eq_true] at hok ⊢
      exact hok
    split at h
    · rename_i x sl1 h1
      split at h
      · rename_i xs' sl2 h2
        cases h
        obtain ⟨hst, c, F1, hr, R1, t1⟩ := retT_run hn R hok'.1 h1
        obtain ⟨ds, F2, hl1, hl2, hm, R2, t2, hall⟩ := retAll_run hn R1 hok'.2 h2
        refine ⟨c :: ds, F2, by simp [hl1], by simp [hl2], by simp [List.mapM_cons, hr, hm], by simpa using R2, t1.trans t2, fun y hy => (List.mem_cons.1 hy).elim (fun e => e ▸ hst) (hall y)⟩
      · cases h
    · cases h
theorem stabT_all : ∀ {l : List T}, (∀ t ∈ l, t.stab = true) → T.stabL l = true
  | [], _ => rfl
  | x :: l, h => by simp only [T.stabL, Bool.and_eq_true]; exact ⟨h x (by simp), stabT_all fun t ht => h t (by simp [ht])⟩
def valOne (ds : List Value) : Value := match ds with | [c] => c | _ => .tuple ds.toArray
theorem one_run {cv : List Value} {xs : List T} {ds : List Value} (hl : ds.length = xs.length) (R : HRel P w X sl cv (.tup xs) (.tuple ds.toArray) F) (hs : ∀ x ∈ xs, x.stab = true) :
    (oneT xs).stab = true ∧ ∃ F', HRel P w X sl cv (oneT xs) (valOne ds) F' ∧ To w F w F' := by
  match xs, ds, hl with
  | [], [], _ => exact ⟨rfl, F, R, To.refl _ _⟩
  | [x], [c], _ =>
    refine ⟨hs x (by simp), ?_⟩
    have hh := R.hand
    generalize hF : F sl.length = G0 at hh
    generalize hv : Value.tuple [c].toArray = cc at hh
    cases hh with
    | tup me _ vs _ G hl h hFF hd =>
      have hvs : vs = [c] := by injection hv with hv; simpa using hv.symm
      subst hvs
      have hx := h 0 x c rfl rfl
      obtain ⟨F', R', t'⟩ := R.swap x c (G 0) (Turns.refl _ _) (fun b hb => .inl (by rw [hF]; exact (hFF b).2 ⟨0, by simp, hb⟩)) (fun b hb => R.rel.lt sl.length b (by rw [hF]; exact (hFF b).2 ⟨0, by simp, hb⟩))
        (fun Zs Zx hs hx' _ => hx.mono zs_zx hs hx' fun _ _ => rfl)
      exact ⟨F', R', t'⟩
  | x :: y :: xs, c :: d :: ds, _ => exact ⟨by simpa [oneT, T.stab] using stabT_all hs, F, R, To.refl _ _⟩
theorem outsOf_get : ∀ {l : List S} {outs : List T}, outsOf l = some outs → l = outs.map .t ∧ ∀ x ∈ outs, x = .dead ∨ x.stab = true
  | [], outs, h => by simp only [outsOf, Option.some.injEq] at h; subst h; simp
  | s :: r, outs, h => by
    unfold outsOf at h
    split at h
    · rename_i heq; cases heq
    · rename_i r' heq
      cases heq
      split at h
      · rename_i l hl
        cases h
        obtain ⟨h1, h2⟩ := outsOf_get hl
        exact ⟨by rw [h1]; rfl, fun x hx => (List.mem_cons.1 hx).elim (fun e => .inl e) (h2 x)⟩
      · cases h
    · rename_i x r' hne heq
      cases heq
      split at h
      · rename_i l hl
        split at h
        · rename_i hst
          cases h
          obtain ⟨h1, h2⟩ := outsOf_get hl
          exact ⟨by rw [h1]; rfl, fun y hy => (List.mem_cons.1 hy).elim (fun e => .inr (e ▸ hst)) (h2 y)⟩
        · cases h
      · cases h
    · cases h
theorem HRel.outs {cv gs : List Value} {r : T} {c : Value} {n : Nat} {outs : List T} (R : HRel P w X sl cv r c F) (hl : n ≤ sl.length) (hg : cv.drop n = gs) (ho : sl.drop n = outs.map .t) :
    ∃ F', Rel P w X (.t r :: outs.map .t) (c :: gs) F' ∧ To w F w F' := by
  have hlen := R.len
  let F' : Nat → Nat → Prop := fun i b => (i = 0 ∧ F sl.length b) ∨ (∃ k, i = k + 1 ∧ n + k < sl.length ∧ F (n + k) b)
  have hto : To w F w F' := ⟨fun i b hb => .inl (hb.elim (fun h => ⟨_, h.2⟩) fun ⟨k, _, _, h⟩ => ⟨_, h⟩), Turns.refl _ _⟩
  have hol : outs.length = sl.length - n := by have := congrArg List.length ho; simpa using this.symm
  have hgl : gs.length = sl.length - n := by rw [← hg]; simp [hlen]
  refine ⟨F', ⟨by simp [hol, hgl], ?_, ?_, ?_, R.rel.xlt, ?_⟩, hto⟩
  · rintro i b (⟨_, h⟩ | ⟨k, _, _, h⟩) <;> exact R.rel.lt _ b h
  · rintro i j b (⟨h1, h2⟩ | ⟨k, h1, hk, h2⟩) (⟨h3, h4⟩ | ⟨k', h3, hk', h4⟩)
    · rw [h1, h3]
    · have := R.rel.disj _ _ b h2 h4; omega
    · have := R.rel.disj _ _ b h2 h4; omega
    · have := R.rel.disj _ _ b h2 h4; omega
  · rintro i b (⟨_, h⟩ | ⟨k, _, _, h⟩) <;> exact R.rel.apart _ b h
  · intro i s d hs hd
    cases i with
    | zero =>
      simp at hs hd
      subst hs; subst hd
      have hF : F' 0 = F sl.length := by funext b; simp [F']
      rw [hF]
      exact TRep.mono R.hand zs_zx hto.zs hto.zx fun _ _ => rfl
    | succ k =>
      simp at hs hd
      obtain ⟨x, hx, rfl⟩ := hs
      have hk : n + k < sl.length := by have := (List.getElem?_eq_some_iff.1 hx).1; omega
      have h1 : sl[n + k]? = some (.t x) := by
        have : (sl.drop n)[k]? = some (.t x) := by rw [ho]; simp [hx]
        simpa using this
      have h2 : cv[n + k]? = some d := by
        have : (cv.drop n)[k]? = some d := by rw [hg]; exact hd
        simpa using this
      have hF : F' (k + 1) = F (n + k) := by
        funext b
        simp only [F', eq_iff_iff]
        constructor
        · rintro (⟨h, _⟩ | ⟨k', h, _, hb⟩)
          · omega
          · have : k = k' := by omega
            subst this; exact hb
        · exact fun hb => .inr ⟨k, rfl, hk, hb⟩
      rw [hF]
      have h0 : TRep P w (zs w X F) (zx w F) none x d (F (n + k)) := R.rel.slot (n + k) (.t x) d (by rw [List.getElem?_append_left hk]; exact h1) (by rw [List.getElem?_append_left (by omega)]; exact h2)
      exact TRep.mono h0 zs_zx hto.zs hto.zx fun _ _ => rfl
theorem results_run {fn : Func} {ds : List Value} (h : (fn.results.toList.mapM (resV a)).run P w = .ok ds w) : (results fn a.tmps).run P w = .ok (valOne ds) w := by
  have hf : (fun (x : ResultVar) => (match x with
      | .tmp t => pure (a.tmps.getD t undef)
      | .cell u t => do loadVar t (← asAddr (a.tmps.getD u undef)) : Sem Value)) = resV a := by funext x; cases x <;> rfl
  have hr : (results fn a.tmps) = (do let vs ← fn.results.mapM (resV a); pure (if h : vs.size = 1 then vs[0] else .tuple vs)) := by
    unfold results
    rw [← hf]
    rfl
  rw [hr, Array.mapM_eq_mapM_toList]
  simp only [Sem.run_bind, Sem.run_map, h]
  match ds with
  | [] => rfl
  | [c] => rfl
  | c :: d :: ds => simp [valOne]
theorem pures_stab {ts : List T} {l : List V} (h : elemsS.T.pures ts = some l) (hs : T.stabL ts = true) : V.stabL l = true := by
  obtain ⟨_, hg⟩ := pures_get h
  have : ∀ (l : List V), (∀ v ∈ l, v.stab = true) → V.stabL l = true := by
    intro l
    induction l with
    | nil => intro _; rfl
    | cons v l ih => intro h; simp only [V.stabL, Bool.and_eq_true]; exact ⟨h v (by simp), ih fun u hu => h u (by simp [hu])⟩
  exact this l fun v hv => by
    obtain ⟨i, hi⟩ := List.getElem?_of_mem hv
    have := stabT_get hs i _ (hg i v hi)
    simpa [T.stab] using this
theorem retT_stab {n : Nat} {v : ResultVar} {x : T} {sl1 : List S} (h : retT P n sl v = some (x, sl1)) : x.stab = true := by
  cases v with
  | tmp t =>
    simp only [retT] at h
    repeat' split at h
    all_goals first
      | (cases h; done)
      | (cases h; rfl)
      | (cases h; simp only [T.stab]; assumption)
      | (cases h; assumption)
  | cell t ty =>
    simp only [retT] at h
    repeat' split at h
    all_goals first
      | (cases h; done)
      | (rename_i hh _ l hl; cases h; simp only [T.stab, V.stab]; exact pures_stab hl hh.2.2.1)
      | (rename_i hh _ hl; cases h; simp only [T.stab]; exact hh.2.2.1)
      | (rename_i hh; cases h; exact hh.1)
theorem retAll_stab {n : Nat} : ∀ {vs : List ResultVar} {xs : List T} {sl sl' : List S}, retAll P n sl vs = some (xs, sl') → ∀ x ∈ xs, x.stab = true
  | [], xs, sl, sl', h => by simp only [retAll, Option.some.injEq, Prod.mk.injEq] at h; obtain ⟨rfl, rfl⟩ := h; simp
  | v :: vs, xs, sl, sl', h => by
    simp only [retAll] at h
    split at h
    · rename_i x sl1 h1
      split at h
      · rename_i xs' sl2 h2
        cases h
        exact fun y hy => (List.mem_cons.1 hy).elim (fun e => e ▸ retT_stab h1) (retAll_stab h2 y)
      · cases h
    · cases h
theorem oneT_stab {xs : List T} (h : ∀ x ∈ xs, x.stab = true) : (oneT xs).stab = true := by
  match xs with
  | [] => rfl
  | [x] => exact h x (by simp)
  | x :: y :: xs => simpa [oneT, T.stab] using stabT_all h
theorem leaves_marks {F : Fence} {m : Nat} {fn : Func} {tmps : Array Value} {R : Ending → World → Prop} {Inv : World → Prop} {lo : Nat} (hput : ∀ (w : World) (D : Nat), lo ≤ D → Inv w → w.heap[D]? = some (.deferred (some [])) → Inv (w.putObj D (.deferred none)))
    (hfin : ∀ w, Inv w → ∃ v, (results fn tmps).run P w = .ok v w ∧ R (.returned v) w) : ∀ (Ds : List Nat) (w : World), Ds.Nodup → (∀ D ∈ Ds, w.heap[D]? = some (.deferred (some [])) ∧ lo ≤ D) → Inv w → LeavesInM F m P fn tmps R (Ds.map markOf) .returning w
  | [], w, _, _, hi => hfin w hi
  | D :: Ds, w, hn, hD, hi => by
    rw [List.nodup_cons] at hn
    refine ⟨by simp, .inl ⟨D, w.putObj D (.deferred none), rfl, run_takeDeferred (hD D (by simp)).1, ?_⟩⟩
    refine leaves_marks hput hfin Ds _ hn.2 (fun D' hD' => ⟨?_, (hD D' (by simp [hD'])).2⟩) (hput w D (hD D (by simp)).2 hi (hD D (by simp)).1)
    rw [World.putObj_heap_other (show D' ≠ D from fun e => hn.1 (by rw [← e]; exact hD'))]
    exact (hD D' (by simp [hD'])).1
theorem putD_cells {w : World} {l : Nat} {d : Option (List Deferred)} (h : w.heap[l]? = some (.deferred d)) (o : Obj) : CellsStay w (w.putObj l o) :=
  ⟨by rw [World.putObj_size]; exact Nat.le_refl _, fun b vs ty fz hb => by
    by_cases e : b = l
    · subst e; rw [h] at hb; cases hb
    · rw [World.putObj_heap_other e]; exact hb⟩
theorem runF_sound {K : Oracle} {H : Hints} (hm : P.follows .mixedOrders = true) (hK : KSound P K) (hH : HSound P H) (hI : ISound P H) (hIO : IOSound P H) {f : FuncId} {args : List Arg} {r : T} {outs : List T} {n : Nat} (h : runF P K H f args = some (r, outs)) (hsl : slotsOf P f = some n) (hle : args.length ≤ n) :
    r.stab = true ∧ (∀ x ∈ outs, x = .dead ∨ x.stab = true) ∧
    ∀ (w : World) (X : Nat → Prop) (vals gs : List Value) (F : Nat → Nat → Prop), vals.length = args.length → gs.length = args.length →
      Rel P w X (frame n args) (vals ++ List.replicate (n - args.length) undef ++ gs) F →
      Calls P f vals.toArray w fun e w' => ∃ c F', e = .returned c ∧ Rel P w' X (.t r :: outs.map .t) (c :: gs) F' ∧ To w F w' F' := by
  obtain ⟨fn, hf, hbody, hn⟩ : ∃ fn, P.funcs[f]? = some fn ∧ fn.body.isSome = true ∧ fn.ntmps = n := by
    unfold slotsOf at hsl
    split at hsl
    · rename_i fn hf
      split at hsl
      · rename_i hh
        simp only [Bool.and_eq_true] at hh
        cases hsl
        exact ⟨fn, hf, hh.1, rfl⟩
      · cases hsl
    · cases hsl
  subst hn
  obtain ⟨c, hb⟩ := Option.isSome_iff_exists.1 hbody
  simp only [runF, hf, hb] at h
  split at h
  · rename_i hh
    obtain ⟨_, hcode, hres, hto⟩ := hh
    -- how the body ends
    have fin : ∀ {e : Ex} {sl : List S}, exec P K H f c (H.ht f) (frame fn.ntmps args) = some (e, sl) → (e = .normal ∨ e = .ret) →
        (match retAll P fn.ntmps sl fn.results.toList with
          | some (rs, sl') => match outsOf (sl'.drop fn.ntmps) with
            | some outs => some (oneT rs, outs)
            | none => none
          | none => none) = some (r, outs) → r.stab = true ∧ (∀ x ∈ outs, x = .dead ∨ x.stab = true) ∧
    ∀ (w : World) (X : Nat → Prop) (vals gs : List Value) (F : Nat → Nat → Prop), vals.length = args.length → gs.length = args.length →
      Rel P w X (frame fn.ntmps args) (vals ++ List.replicate (fn.ntmps - args.length) undef ++ gs) F →
      Calls P f vals.toArray w fun e w' => ∃ c F', e = .returned c ∧ Rel P w' X (.t r :: outs.map .t) (c :: gs) F' ∧ To w F w' F' := by
      intro e sl hex he h
      split at h
      · rename_i rs sl' hret
        split at h
        · rename_i outs' hout
          cases h
          obtain ⟨ho1, ho2⟩ := outsOf_get hout
          have hst := retAll_stab hret
          refine ⟨oneT_stab hst, ho2, fun w X vals gs F hlv hlg R => ?_⟩
          refine (callsIn_wide (n := 0)).1 (callsIn_of_wp_marks hf hb trivial ?_)
          have hsz : vals.toArray.size = args.length := by simpa using hlv
          refine exec_wp hm hK hH hI hIO (gv := gs) (n := fn.ntmps) c (H.ht f) hto hcode (X := X) (r := none) (Wr := fun _ => True) (t0 := #[]) (lo := w.heap.size) (w0 := w) (F0 := F) (sl := frame fn.ntmps args) (Nat.le_refl _) (.inl rfl) (fun _ _ => trivial)
            ⟨by simp [hlv]; omega, fun i hi => absurd trivial hi, X, F, fun _ h => h, trivial, Marks.nil, by simpa [hlv] using R, To.refl _ _⟩ hex fun a' w' hA => ?_
          obtain ⟨X', F1, hX1, hX2, hM, R1, t1⟩ := hA.rel
          obtain ⟨Ds, hDs, hnd, hmark⟩ := hM
          have key : LeavesInM Fence.wide 0 P fn a'.tmps (fun e w' => ∃ c F', e = .returned c ∧ Rel P w' X (.t (oneT rs) :: outs.map .t) (c :: gs) F' ∧ To w F w' F') a'.defers .returning w' := by
            rw [hDs]
            refine leaves_marks (lo := w.heap.size) (Inv := fun w' => ∃ F1, Rel P w' X sl (a'.tmps.toList ++ gs) F1 ∧ To w F w' F1) ?_ ?_ Ds w' hnd (fun D hD => ⟨(hmark D hD).2.1, (hmark D hD).2.2⟩) ⟨F1, R1.less hX1, t1⟩
            · rintro w1 D hlD ⟨F2, R2, t2⟩ hD
              exact ⟨F2, R2.others (putD_cells hD _) (fun k hk => .inl hk) (fun k hk => by rw [World.putObj_size]; exact R2.xlt k hk), t2.put hlD _⟩
            · rintro w' ⟨F1, R1, t1⟩
              obtain ⟨F2, R2, t2⟩ := R1.give' (.tup []) (.tuple [].toArray) (fun _ => False) (Turns.refl _ _) (fun _ h => h.elim) fun Zs Zx _ _ => .tup none [] [] _ (fun _ _ => False) rfl (by simp) (by simp) (by simp)
              obtain ⟨ds, F3, hl1, hl2, hm, R3, t3, hall⟩ := retAll_run hA.size R2 hres hret
              simp only [List.nil_append] at R3
              obtain ⟨_, F4, R4, t4⟩ := one_run (hl1.trans hl2.symm) R3 hall
              have hlen := R4.len
              have hdl : (sl'.drop fn.ntmps).length = sl'.length - fn.ntmps := by simp
              obtain ⟨F5, R5, t5⟩ := R4.outs (n := fn.ntmps) (gs := gs) (by rw [hlen]; simp [hA.size]) (by rw [List.drop_left' (by simp [hA.size])]) ho1
              have hto := ((((t1.trans t2).trans t3).trans t4).trans t5)
              have hres' := results_run (P := P) (a := a') hm
              exact ⟨valOne ds, hres', valOne ds, F5, rfl, R5, hto⟩
          rcases he with rfl | rfl
          · exact key
          · exact key
        · cases h
      · cases h
    split at h
    · cases h
    · rename_i e sl hne hex
      refine fin hex ?_ h
      cases e with
      | normal => exact .inl rfl
      | ret => exact .inr rfl
      | exit id => exact (hne id rfl).elim
    · cases h
  · cases h
theorem callN_sound (hm : P.follows .mixedOrders = true) {H : Hints} (hH : HSound P H) (hI : ISound P H) (hIO : IOSound P H) {sp : FuncId → Option (List Arg → Option (T × List T))} (hsp : KSound P (fun f args => match sp f with | some g => g args | none => none)) : ∀ n, KSound P (callN P H sp n)
  | 0 => fun f args r outs n h => by simp [callN] at h
  | k + 1 => fun f args r outs n h h1 h2 => by
    simp only [callN] at h
    cases hs : sp f with
    | some g => exact hsp f args r outs n (by simpa [hs] using h) h1 h2
    | none => exact runF_sound hm (callN_sound hm hH hI hIO hsp k) hH hI hIO (by simpa [hs] using h) h1 h2
end
end Go.Proofs.Ytffofdfikmpanaa.A
namespace Go.Proofs.Ytffofdfikmpanaa.A
set_option linter.unusedVariables false
set_option linter.unusedSimpArgs false
open Go.ChangeShapes Go.WideShapes Go.RowKit
def All (w : World) : Nat → Prop := fun b => b < w.heap.size
section
variable {P : Program} {w : World}
structure Opens (P : Program) (w : World) (t : TypeId) {α : Type} (El : α → V) (bk : α → Nat) (fine : α → Prop) : Prop where
  run : ∀ {H : Type} {enc : TypeId × Value → H} {fuel : Nat} {cs : List Value} {d : DataW H} {ps : List MemPlace}, DataW.trod enc P w 0 (fun _ => true) true fuel t cs = some (d, ps) →
    ∃ x : α, PW w (All w) (El x).cells cs ∧ bk x ≤ Rows.uptoBulk d ∧ ((∀ n ∈ d.weights P t, n ≤ reachBytes) → fine x)
theorem weightsAll_mem {H : Type} {e : TypeId} : ∀ {l : List (DataW H)} {d : DataW H} {n : Nat}, d ∈ l → n ∈ d.weights P e → n ∈ DataW.weightsAll P e l
  | d0 :: l, d, n, hd, hn => by
    simp only [DataW.weightsAll, List.mem_append]
    rcases List.mem_cons.1 hd with rfl | hd
    · exact .inl hn
    · exact .inr (weightsAll_mem hd hn)
theorem weightsEach_rep {H : Type} {e : TypeId} : ∀ {l : List (DataW H)} {n : Nat}, l.length = n → DataW.weightsEach P (List.replicate n e) l = DataW.weightsAll P e l
  | [], 0, _ => rfl
  | d :: l, n + 1, h => by
    simp only [List.replicate_succ, DataW.weightsEach, DataW.weightsAll]
    rw [weightsEach_rep (by simpa using h)]
  | [], n + 1, h => by simp at h
  | d :: l, 0, h => by simp at h
theorem PW.single {Z : Nat → Prop} {v : V} {c : Value} (h1 : v.one = true) (h : PRep w Z Z v c) : PW w Z [v] [c] :=
  ⟨rfl, by simpa using h1, fun i u d hu hd => by cases i <;> simp at hu hd; subst hu; subst hd; exact h⟩
theorem Opens.bool {t : TypeId} (ht : P.underlying t = some .bool) : Opens P w t V.bool (fun _ => 1) (fun _ => True) := ⟨fun {H enc fuel cs d ps} h => by
  obtain ⟨b, rfl, hx⟩ := DataW.trod_bool ht h
  cases hx
  exact ⟨b, PW.single rfl (.bool _), by simp [Rows.uptoBulk], fun _ => trivial⟩⟩
def intIn (k : IntKind) : Type := { n : Int // k.min ≤ n ∧ n ≤ k.max }
theorem Opens.int {t : TypeId} {k : IntKind} (ht : P.underlying t = some (.int k)) : Opens P w t (fun x : intIn k => V.int k x.1) (fun _ => 1) (fun _ => True) := ⟨fun {H enc fuel cs d ps} h => by
  obtain ⟨n, rfl, hx, hw⟩ := DataW.trod_int ht h
  cases hx
  simp only [Lit.wf, Bool.and_eq_true, decide_eq_true_eq] at hw
  exact ⟨⟨n, hw⟩, PW.single rfl (.int _ _), by simp [Rows.uptoBulk], fun _ => trivial⟩⟩
theorem Opens.byte {t : TypeId} (ht : P.underlying t = some (.int .u8)) : Opens P w t byteV (fun _ => 1) (fun _ => True) := ⟨fun {H enc fuel cs d ps} h => by
  obtain ⟨x, hx, hb, _⟩ := (Opens.int (w := w) ht).run h
  obtain ⟨n, h1, h2⟩ := x
  have h1' : 0 ≤ n := by simpa [IntKind.min, IntKind.signed] using h1
  have h2' : n ≤ 255 := by simpa [IntKind.max, IntKind.signed, IntKind.bits] using h2
  refine ⟨UInt8.ofNat n.toNat, ?_, hb, fun _ => trivial⟩
  have : byteV (UInt8.ofNat n.toNat) = .int .u8 n := by
    simp only [byteV, V.int.injEq, true_and, UInt8.toNat_ofNat']
    omega
  rw [this]; exact hx⟩
theorem Opens.str {t : TypeId} (ht : P.underlying t = some .string) : Opens P w t V.str (fun s => s.length + 1) (fun s => s.length ≤ reachBytes) := ⟨fun {H enc fuel cs d ps} h => by
  obtain ⟨s, rfl, hx, hs⟩ := DataW.trod_string ht h
  cases hx
  refine ⟨s.data.toList, PW.single rfl ?_, by simp [Rows.uptoBulk], fun hw => by simpa [DataW.weights] using hw⟩
  have := PRep.str (w := w) (Zs := All w) (Zx := All w) s.data.toList
  simpa using this⟩
theorem bulkAll_map {H : Type} {β : Type} (f : β → DataW H) (l : List β) : Rows.uptoBulkAll (l.map f) = (l.map fun x => Rows.uptoBulk (f x)).sum := by
  induction l with
  | nil => rfl
  | cons x l ih => simp [Rows.uptoBulkAll, ih]
theorem sum_le_sum {α β : Type} {f : α → Nat} {g : β → Nat} : ∀ {l : List α} {m : List β}, l.length = m.length → (∀ (i : Nat) (x : α) (y : β), l[i]? = some x → m[i]? = some y → f x ≤ g y) → (l.map f).sum ≤ (m.map g).sum
  | [], [], _, _ => by simp
  | x :: l, y :: m, h, hh => by
    have h0 := hh 0 x y rfl rfl
    have := sum_le_sum (f := f) (g := g) (by simpa using h) fun i a b h1 h2 => hh (i + 1) a b (by simpa using h1) (by simpa using h2)
    simp; omega
  | [], _ :: _, h, _ => by simp at h
  | _ :: _, [], h, _ => by simp at h
theorem pickAll {α : Type} {Q : Nat → α → Prop} (x0 : Option α) : ∀ (n : Nat), (∀ i, i < n → ∃ x, Q i x) → ∃ l : List α, l.length = n ∧ ∀ (i : Nat) (x : α), l[i]? = some x → Q i x
  | 0, _ => ⟨[], rfl, by simp⟩
  | n + 1, h => by
    obtain ⟨l, hl, hq⟩ := pickAll x0 n fun i hi => h i (by omega)
    obtain ⟨x, hx⟩ := h n (by omega)
    refine ⟨l ++ [x], by simp [hl], fun i y hy => ?_⟩
    by_cases hi : i < l.length
    · rw [List.getElem?_append_left hi] at hy; exact hq i y hy
    · rw [List.getElem?_append_right (by omega)] at hy
      have : i = l.length := by
        have := (List.getElem?_eq_some_iff.1 hy).1
        simp at this; omega
      subst this
      simp at hy; subst hy; rw [hl]; exact hx
theorem Addr.add_eq {b o : Nat} (n : Nat) : (⟨b, o, none⟩ : Addr).add n = ⟨b, o + n, none⟩ := by
  unfold Addr.add; split <;> simp_all
theorem cell_spot {a : Addr} {n : Nat} {c : Value} (h : w.cell? (a.add 0) = some c) : a = ⟨a.block, a.off, none⟩ := by
  obtain ⟨b, o, s⟩ := a
  cases s with
  | none => rfl
  | some k =>
    simp only [Addr.add, if_true] at h
    unfold World.cell? at h
    split at h
    · simp at h
    · cases h
theorem Opens.slice {t e : TypeId} {α : Type} {El : α → V} {bk : α → Nat} {fine : α → Prop} (ht : P.underlying t = some (.slice e)) (hpos : 0 < P.cellsOf e) (he : Opens P w e El bk fine) (hby : 0 < P.bytesOf e := by decide +kernel) :
    Opens P w t (fun xs : List α => .sl false false (P.cellsOf e) (xs.map El)) (fun xs => (xs.map bk).sum + 1) (fun xs => xs.length ≤ reachBytes ∧ ∀ x ∈ xs, fine x) := ⟨fun {H enc fuel cs d ps} h => by
  rcases DataW.trod_slice ht h with ⟨rfl, hx⟩ | ⟨a, len, cap, elems, rest, n, rfl, rfl, hx, _, hlc, hcm, hlen, hgt, _, _⟩
  · cases hx
    exact ⟨[], PW.single rfl (.sl0 _ _ _ _ _ (by simp)), by simp [Rows.uptoBulk], fun _ => ⟨Nat.zero_le _, by simp⟩⟩
  · cases hx
    have hget : ∀ i, i < len → ∃ dp, elems[i]? = some dp ∧ ((w.cells? 0 (a.add (i * P.cellsOf e)) (P.cellsOf e)).bind (DataW.trod enc P w 0 (fun _ => true) true n e)) = some dp := fun i hi => by
      have := hgt i hi
      rw [List.getElem?_eq_getElem (by omega)] at this
      exact ⟨_, List.getElem?_eq_getElem (by omega), this⟩
    have hone : ∀ i, i < len → ∃ x : α, ∃ ci dp, elems[i]? = some dp ∧ w.cells? 0 (a.add (i * P.cellsOf e)) (P.cellsOf e) = some ci ∧ PW w (All w) (El x).cells ci ∧ bk x ≤ Rows.uptoBulk dp.1 ∧ ((∀ n ∈ dp.1.weights P e, n ≤ reachBytes) → fine x) := fun i hi => by
      obtain ⟨dp, h1, h2⟩ := hget i hi
      rw [Option.bind_eq_some_iff] at h2
      obtain ⟨ci, h3, h4⟩ := h2
      obtain ⟨x, hx, hb, hf⟩ := he.run (d := dp.1) (ps := dp.2) h4
      exact ⟨x, ci, dp, h1, h3, hx, hb, hf⟩
    obtain ⟨xs, hxl, hxs⟩ := pickAll (Q := fun i (x : α) => ∃ ci dp, elems[i]? = some dp ∧ w.cells? 0 (a.add (i * P.cellsOf e)) (P.cellsOf e) = some ci ∧ PW w (All w) (El x).cells ci ∧ bk x ≤ Rows.uptoBulk dp.1 ∧ ((∀ n ∈ dp.1.weights P e, n ≤ reachBytes) → fine x)) none len hone
    have hbk : (xs.map bk).sum + 1 ≤ Rows.uptoBulk (DataW.slice (elems.map (·.1)) (rest.map (·.1))) := by
      simp only [Rows.uptoBulk]
      rw [bulkAll_map]
      have := sum_le_sum (f := bk) (g := fun x : DataW H × List MemPlace => Rows.uptoBulk x.1) (l := xs) (m := elems) (by omega) fun i x y hx hy => by
        obtain ⟨ci, dp, h1, _, _, h2, _⟩ := hxs i x hx
        rw [hy] at h1; cases h1; exact h2
      omega
    refine ⟨xs, PW.single rfl ?_, hbk, fun hw => ?_⟩
    rotate_left
    · simp only [DataW.weights, ht] at hw
      refine ⟨?_, fun x hx => ?_⟩
      · have h1 := hw _ (List.mem_cons_self ..)
        have h2 : xs.length ≤ ((elems.map (·.1)).length + (rest.map (·.1)).length) * P.bytesOf e := by
          rw [List.length_map, hlen, hxl]
          exact Nat.le_trans (Nat.le_add_right _ _) (Nat.le_mul_of_pos_right _ hby)
        omega
      · obtain ⟨i, hi⟩ := List.getElem?_of_mem hx
        obtain ⟨ci, dp, h1, _, _, _, h2⟩ := hxs i x hi
        exact h2 fun k hk => hw k (List.mem_cons_of_mem _ (List.mem_append_left _ (weightsAll_mem (List.mem_map_of_mem (List.mem_of_getElem? h1)) hk)))
    cases hz : xs with
    | nil =>
      subst hz
      simp at hxl; subst hxl
      exact .sl0 _ _ _ _ _ (by simp)
    | cons x0 xs0 =>
      rw [← hz]
      have hl0 : 0 < len := by rw [← hxl, hz]; simp
      have hspot : a = ⟨a.block, a.off, none⟩ ∧ a.block < w.heap.size := by
        obtain ⟨ci, dp, _, h1, h2, _, _⟩ := hxs 0 x0 (by rw [hz]; rfl)
        obtain ⟨_, h3, h4⟩ := World.cells?_some h1
        have h5 := h4 0 hpos
        have : ∃ c, ci[0]? = some c := ⟨ci[0], List.getElem?_eq_getElem (by omega)⟩
        obtain ⟨c, hc⟩ := this
        rw [hc] at h5
        rw [Nat.zero_mul] at h5
        have h6 : (a.add 0) = a := by simp [Addr.add]
        rw [h6] at h5
        exact ⟨cell_spot (n := 0) h5, World.cells?_block (by rw [Nat.zero_mul, h6] at h1; exact h1) hpos⟩
      obtain ⟨ha, hblk⟩ := hspot
      rw [ha]
      have hcell : ∀ (i : Nat) (x : α), xs[i]? = some x → ∃ ci, PW w (All w) (El x).cells ci ∧ ci.length = P.cellsOf e ∧ ∀ j, j < P.cellsOf e → w.cell? ⟨a.block, a.off + i * P.cellsOf e + j, none⟩ = ci[j]? := fun i x hx => by
        obtain ⟨ci, dp, _, h1, h2, _, _⟩ := hxs i x hx
        obtain ⟨_, h3, h4⟩ := World.cells?_some h1
        refine ⟨ci, h2, h3, fun j hj => ?_⟩
        rw [← h4 j hj, ha, Addr.add_eq, Addr.add_eq]
      have hel : (xs.map El).length = len := by simp [hxl]
      rw [← hel]
      refine .sl false false _ _ a.block a.off cap (by simp) (by rw [hel]; exact hlc) hblk (fun i v hv => ?_) (fun i j v u hv hu => ?_) (fun i j v u hv hu => ?_) (fun i j v u c hv hu hc => ?_)
      · rw [List.getElem?_map, Option.map_eq_some_iff] at hv
        obtain ⟨x, hx, rfl⟩ := hv
        obtain ⟨ci, h1, h2, _⟩ := hcell i x hx
        rw [h1.len, h2]
      · rw [List.getElem?_map, Option.map_eq_some_iff] at hv
        obtain ⟨x, hx, rfl⟩ := hv
        obtain ⟨ci, h1, h2, _⟩ := hcell i x hx
        exact h1.one u (List.mem_of_getElem? hu)
      · rw [List.getElem?_map, Option.map_eq_some_iff] at hv
        obtain ⟨x, hx, rfl⟩ := hv
        obtain ⟨ci, h1, h2, h3⟩ := hcell i x hx
        have hj : j < P.cellsOf e := by have := (List.getElem?_eq_some_iff.1 hu).1; rw [h1.len, h2] at this; exact this
        exact ⟨_, by rw [h3 j hj]; exact List.getElem?_eq_getElem (by omega)⟩
      · rw [List.getElem?_map, Option.map_eq_some_iff] at hv
        obtain ⟨x, hx, rfl⟩ := hv
        obtain ⟨ci, h1, h2, h3⟩ := hcell i x hx
        have hj : j < P.cellsOf e := by have := (List.getElem?_eq_some_iff.1 hu).1; rw [h1.len, h2] at this; exact this
        rw [h3 j hj] at hc
        exact h1.rep j u c hu hc⟩
structure OpensRow (P : Program) (w : World) (ts : List TypeId) {β : Type} (E : β → List V) (bk : β → Nat) (fine : β → Prop) : Prop where
  run : ∀ {H : Type} {enc : TypeId × Value → H} {fuel : Nat} {cs : List Value} {xs : List (DataW H × List MemPlace)}, cs.length = (ts.map P.cellsOf).sum →
    (∀ (i : Nat) (t : TypeId), ts[i]? = some t → ∃ x, xs[i]? = some x ∧ DataW.trod enc P w 0 (fun _ => true) true fuel t ((cs.drop ((ts.take i).map P.cellsOf).sum).take (P.cellsOf t)) = some x) → xs.length = ts.length →
    ∃ x : β, PW w (All w) (E x) cs ∧ bk x ≤ Rows.uptoBulkAll (xs.map (·.1)) ∧ ((∀ n ∈ DataW.weightsEach P ts (xs.map (·.1)), n ≤ reachBytes) → fine x)
theorem OpensRow.nil : OpensRow P w [] (fun _ : Unit => []) (fun _ => 0) (fun _ => True) := ⟨fun {H enc fuel cs xs} hl _ _ => by
  have : cs = [] := List.eq_nil_of_length_eq_zero (by simpa using hl)
  subst this
  exact ⟨(), PW.nil, Nat.zero_le _, fun _ => trivial⟩⟩
theorem PW.app2 {Z : Nat → Prop} {l m : List V} {cs ds : List Value} (h1 : PW w Z l cs) (h2 : PW w Z m ds) : PW w Z (l ++ m) (cs ++ ds) := by
  refine ⟨by simp [h1.len, h2.len], fun v hv => (List.mem_append.1 hv).elim (h1.one v) (h2.one v), fun i v c hv hc => ?_⟩
  by_cases hi : i < l.length
  · rw [List.getElem?_append_left hi] at hv
    rw [List.getElem?_append_left (by rw [← h1.len]; exact hi)] at hc
    exact h1.rep i v c hv hc
  · rw [List.getElem?_append_right (by omega)] at hv
    rw [List.getElem?_append_right (by rw [← h1.len]; omega), ← h1.len] at hc
    exact h2.rep _ v c hv hc
theorem OpensRow.cons {t : TypeId} {ts : List TypeId} {α β : Type} {El : α → V} {E : β → List V} {b1 : α → Nat} {b2 : β → Nat} {f1 : α → Prop} {f2 : β → Prop} (h1 : Opens P w t El b1 f1) (h2 : OpensRow P w ts E b2 f2) :
    OpensRow P w (t :: ts) (fun x : α × β => (El x.1).cells ++ E x.2) (fun x => b1 x.1 + b2 x.2) (fun x => f1 x.1 ∧ f2 x.2) := ⟨fun {H enc fuel cs xs} hl hx hxl => by
  obtain ⟨x0, hx0, ht⟩ := hx 0 t rfl
  simp only [List.take_zero, List.map_nil, List.sum_nil, List.drop_zero] at ht
  cases xs with
  | nil => simp at hx0
  | cons y ys =>
    simp at hx0; subst hx0
    obtain ⟨x, px, bx, wx⟩ := h1.run (d := y.1) (ps := y.2) ht
    simp only [List.map_cons, List.sum_cons] at hl
    obtain ⟨z, pz, bz, wz⟩ := h2.run (enc := enc) (fuel := fuel) (cs := cs.drop (P.cellsOf t)) (xs := ys) (by simp; omega) (fun i u hu => by
      obtain ⟨v, hv, htr⟩ := hx (i + 1) u (by simpa using hu)
      refine ⟨v, by simpa using hv, ?_⟩
      rw [List.drop_drop]
      simpa using htr) (by simpa using hxl)
    refine ⟨(x, z), ?_, ?_, fun hw => ?_⟩
    · have := px.app2 pz
      rwa [List.take_append_drop] at this
    · simp only [List.map_cons, Rows.uptoBulkAll]; omega
    · simp only [List.map_cons, DataW.weightsEach, List.mem_append] at hw
      exact ⟨wx fun k hk => hw k (.inl hk), wz fun k hk => hw k (.inr hk)⟩⟩
def offsOk (P : Program) : Nat → List Field → Bool
  | _, [] => true
  | k, f :: r => f.offset == k && offsOk P (k + P.cellsOf f.type) r
theorem offsOk_get : ∀ {fs : List Field} {k : Nat}, offsOk P k fs = true → ∀ (i : Nat) (f : Field), fs[i]? = some f → f.offset = k + (((fs.map (·.type)).take i).map P.cellsOf).sum
  | [], _, _, i, f, hf => by simp at hf
  | g :: r, k, h, i, f, hf => by
    simp only [offsOk, Bool.and_eq_true, beq_iff_eq] at h
    cases i with
    | zero => simp at hf; subst hf; simp [h.1]
    | succ i =>
      simp at hf
      have := offsOk_get h.2 i f hf
      rw [this]; simp; omega
theorem Opens.struct {t : TypeId} {fs : Array Field} {β : Type} {E : β → List V} {bk : β → Nat} {fine : β → Prop} (ht : P.underlying t = some (.struct fs)) (ho : offsOk P 0 fs.toList = true) (hs : P.cellsOf t = ((fs.toList.map (·.type)).map P.cellsOf).sum)
    (h : OpensRow P w (fs.toList.map (·.type)) E bk fine) : Opens P w t (fun x => .agg (E x)) bk fine := ⟨fun {H enc fuel cs d ps} hh => by
  obtain ⟨xs, n, rfl, he, hl, hlen, hget⟩ := DataW.trod_struct ht hh
  cases he
  obtain ⟨x, hx, hb, hf⟩ := h.run (enc := enc) (fuel := n) (cs := cs) (xs := xs) (by rw [hl, hs]) (fun i u hu => by
    rw [List.getElem?_map, Option.map_eq_some_iff] at hu
    obtain ⟨f, hf, rfl⟩ := hu
    have := hget i f (by simpa using hf)
    have hi : i < xs.length := by rw [hlen]; have := (List.getElem?_eq_some_iff.1 hf).1; simpa using this
    rw [List.getElem?_eq_getElem hi] at this
    refine ⟨_, List.getElem?_eq_getElem hi, ?_⟩
    rw [← this, offsOk_get ho i f hf, Nat.zero_add]) (by simp [hlen])
  exact ⟨x, by simpa [V.cells] using hx, by simp only [Rows.uptoBulk]; omega, fun hw => hf (by simpa only [DataW.weights, ht] using hw)⟩⟩
theorem OpensRow.rep {e : TypeId} {α : Type} {El : α → V} {bk : α → Nat} {fine : α → Prop} (h : Opens P w e El bk fine) : ∀ n, OpensRow P w (List.replicate n e) (fun l : { l : List α // l.length = n } => l.1.flatMap fun x => (El x).cells) (fun l => (l.1.map bk).sum) (fun l => ∀ x ∈ l.1, fine x)
  | 0 => ⟨fun {H enc fuel cs xs} hl _ _ => by
      have : cs = [] := List.eq_nil_of_length_eq_zero (by simpa using hl)
      subst this
      exact ⟨⟨[], rfl⟩, PW.nil, Nat.zero_le _, fun _ => by simp⟩⟩
  | n + 1 => ⟨fun {H enc fuel cs xs} hl hx hxl => by
      obtain ⟨x, hp, hb, hf⟩ := (OpensRow.cons h (OpensRow.rep h n)).run (enc := enc) (fuel := fuel) (cs := cs) (xs := xs) (by simpa [List.replicate_succ] using hl) (by simpa [List.replicate_succ] using hx) (by simpa [List.replicate_succ] using hxl)
      exact ⟨⟨x.1 :: x.2.1, by simp [x.2.2]⟩, by simpa using hp, by simpa using hb, fun hw => List.forall_mem_cons.2 (hf (by simpa only [List.replicate_succ] using hw))⟩⟩
theorem Opens.array {t e : TypeId} {n : Nat} {α : Type} {El : α → V} {bk : α → Nat} {fine : α → Prop} (ht : P.underlying t = some (.array n e)) (hs : P.cellsOf t = n * P.cellsOf e) (h : Opens P w e El bk fine) :
    Opens P w t (fun l : { l : List α // l.length = n } => .agg (l.1.flatMap fun x => (El x).cells)) (fun l => (l.1.map bk).sum) (fun l => ∀ x ∈ l.1, fine x) := ⟨fun {H enc fuel cs d ps} hh => by
  obtain ⟨xs, m, rfl, he, hl, hlen, hget⟩ := DataW.trod_array ht hh
  cases he
  obtain ⟨x, hx, hb, hf⟩ := (OpensRow.rep h n).run (enc := enc) (fuel := m) (cs := cs) (xs := xs) (by simp [hl, hs]) (fun i u hu => by
    rw [List.getElem?_replicate] at hu
    split at hu
    · rename_i hi
      cases hu
      have := hget i hi
      rw [List.getElem?_eq_getElem (by omega)] at this
      refine ⟨_, List.getElem?_eq_getElem (by omega), ?_⟩
      rw [← this]
      simp [List.take_replicate, Nat.min_eq_left (Nat.le_of_lt hi)]
    · cases hu) (by simp [hlen])
  exact ⟨x, by simpa [V.cells] using hx, by simp only [Rows.uptoBulk]; omega, fun hw => hf (by rw [weightsEach_rep (by simp [hlen])]; simpa only [DataW.weights, ht] using hw)⟩⟩
theorem Opens.arg {t : TypeId} {α : Type} {El : α → V} {bk : α → Nat} {fine : α → Prop} (h : Opens P w t El bk fine) (hagg : ∀ x, (El x).isAgg = match P.underlying t with | some (.struct _) | some (.array _ _) => true | _ => false) {H : Type} {enc : TypeId × Value → H} {r : Reach} {b0 : Nat} {v : Value} {d : DataW H} {ps : List MemPlace}
    (hv : Value.okWide P w r b0 t v) (hd : DataW.Trod enc P w 0 (fun _ => true) true t v d ps) : ∃ x : α, PRep w (All w) (All w) (El x) v ∧ bk x ≤ Rows.uptoBulk d ∧ ((∀ n ∈ d.weights P t, n ≤ reachBytes) → fine x) := by
  obtain ⟨fuel, hf⟩ := hd
  obtain ⟨x, hx, hb, hfi⟩ := h.run hf
  refine ⟨x, ?_, hb, hfi⟩
  have ha := hagg x
  unfold Value.okWide at hv
  split at hv
  · rename_i fs hu
    rw [hu] at ha
    obtain ⟨cs, rfl, _, _⟩ := hv
    generalize El x = y at ha hx
    cases y <;> simp [V.isAgg] at ha
    exact agg_pw (by simpa [V.cells, Value.cells] using hx) fun _ h => h
  · rename_i n e hu
    rw [hu] at ha
    obtain ⟨cs, rfl, _, _⟩ := hv
    generalize El x = y at ha hx
    cases y <;> simp [V.isAgg] at ha
    exact agg_pw (by simpa [V.cells, Value.cells] using hx) fun _ h => h
  · rename_i h1 h2
    have hna : (El x).isAgg = false := by
      rw [ha]
      split
      · rename_i fs hu; exact absurd hu (h1 fs)
      · rename_i n e hu; exact absurd hu (h2 n e)
      · rfl
    have hone : (El x).cells = [El x] := by generalize El x = y at hna; cases y <;> first | rfl | simp [V.isAgg] at hna
    rw [hone] at hx
    have hvc : v.cells.toList = [v] := by
      cases v <;> try rfl
      rename_i cs
      exfalso
      unfold Cell.okWide at hv
      cases hu : P.underlying t with
      | none => rw [hu] at hv; simp [Cell.ok, hu] at hv
      | some u => rw [hu] at hv; cases u <;> simp [Cell.ok, hu] at hv
    rw [hvc] at hx
    exact hx.rep 0 _ _ rfl rfl
theorem law_run {K : Oracle} (hK : KSound P K) {f n : Nat} {vs : List V} {vals : List Value} {outs : List T} (hsl : slotsOf P f = some n) (hle : vs.length ≤ n) (h : K f (vs.map .v) = some (.p (.bool true), outs))
    (hl : vals.length = vs.length) (hp : ∀ (i : Nat) (v : V) (c : Value), vs[i]? = some v → vals[i]? = some c → PRep w (All w) (All w) v c) :
    Calls P f vals.toArray w fun e w' => e = .returned (.bool true) ∧ Below w.heap.size w w' := by
  obtain ⟨_, _, hrun⟩ := hK f _ _ outs n h hsl (by simpa using hle)
  have hpar : ∀ (k : Nat) (l : List V), params n k (l.map .v) = l.map fun v => S.t (.p v) := by
    intro k l
    induction l generalizing k with
    | nil => rfl
    | cons v l ih => simp [params, ih]
  have hanc : (vs.map Arg.v).map anchor = List.replicate vs.length (S.t .dead) := by
    apply List.ext_getElem?
    intro i
    simp only [List.getElem?_map, List.getElem?_replicate]
    by_cases hi : i < vs.length
    · simp [hi, anchor]
    · simp [hi]
  have hfr : frame n (vs.map .v) = (vs.map fun v => S.t (.p v)) ++ List.replicate (n - vs.length) (S.t .dead) ++ List.replicate vs.length (S.t .dead) := by
    simp only [frame, hpar, hanc, List.length_map]
  have key : Rel P w (fun _ => False) (frame n (vs.map .v)) (vals ++ List.replicate (n - (vs.map Arg.v).length) undef ++ List.replicate vs.length undef) (fun _ _ => False) := by
    rw [hfr]
    refine ⟨by simp [hl], fun _ _ h => h.elim, fun _ _ _ h => h.elim, fun _ _ h => h.elim, fun _ h => h.elim, fun i s c hs hc => ?_⟩
    by_cases hi : i < vs.length
    · rw [List.append_assoc, List.getElem?_append_left (by simpa using hi), List.getElem?_map, Option.map_eq_some_iff] at hs
      obtain ⟨v, hv, rfl⟩ := hs
      rw [List.append_assoc, List.getElem?_append_left (by omega)] at hc
      exact .p none v c _ ((hp i v c hv hc).mono (fun _ h => h) (fun b hb => ⟨⟨hb, fun _ h => h⟩, fun h => h⟩) (fun b hb => ⟨hb, fun _ h => h⟩) fun _ _ => rfl) fun _ h => h
    · have hd : s = .t .dead := by
        rw [List.append_assoc, List.getElem?_append_right (by simp; omega), List.replicate_append_replicate, List.getElem?_replicate] at hs
        split at hs
        · cases hs; rfl
        · cases hs
      subst hd
      exact .dead none c _ fun _ h => h
  refine (hrun w (fun _ => False) vals (List.replicate vs.length undef) (fun _ _ => False) (by simpa using hl) (by simp) key).mono fun e w' he => ?_
  obtain ⟨c, F', rfl, R, t⟩ := he
  have h0 : TRep P w' _ _ none (.p (.bool true)) c (F' 0) := R.slot 0 _ _ rfl rfl
  have hc : c = .bool true := by
    cases h0 with
    | p me v c F hp hF => cases hp; rfl
  subst hc
  exact ⟨rfl, t.turns.os, t.turns.tape, t.turns.output, t.turns.size, fun k hk => t.turns.block k hk fun ⟨_, h⟩ => h.elim⟩
theorem trodAll_keep {H : Type} {enc : TypeId × Value → H} (hl : laidOutB P = true) {W W' : World} (hb : Below W.heap.size W W') : ∀ {ts : List TypeId} {vs : List Value} {ds : List (DataW H)} {ps : List MemPlace}, (ts.all fun t => P.readableRec t && decide (t < P.types.size)) = true →
    DataW.TrodAll enc P W 0 (fun _ => true) true ts vs ds ps → (∀ x ∈ ps, x.block < W.heap.size) → DataW.TrodAll enc P W' 0 (fun b => decide (b < W.heap.size)) true ts vs ds ps
  | [], vs, ds, ps, _, h, _ => by
    obtain ⟨rfl, rfl, rfl⟩ := trodAll_nil h
    exact trodAll_mk0
  | t :: ts, vs, ds, ps, hr, h, hlt => by
    obtain ⟨v, vs', d, ds', p, q, rfl, rfl, rfl, h1, h2⟩ := trodAll_cons h
    simp only [List.all_cons, Bool.and_eq_true, decide_eq_true_eq] at hr
    exact ⟨p, q, Below.trod hl hr.1.1 hr.1.2 h1 hb fun x hx => hlt x (List.mem_append_left _ hx), trodAll_keep hl hb (by simpa using hr.2) h2 fun x hx => hlt x (List.mem_append_right _ hx), rfl⟩
theorem law_post {H : Type} {enc : TypeId × Value → H} {f : Func} {s : ChangeSpec} {W W' : World} {args : Array Value} {ds : List (DataW H)} {before : List MemPlace} {t : TypeId} (hlo : laidOutB P = true) (hr : (f.params.toList.all fun t => P.readableRec t && decide (t < P.types.size)) = true)
    (hv : s.vars = []) (hW : DataW.Whole enc P f.params.toList [] false W args.toList ds [] before) (hs : s.fn H ds = { results := [.lit (.bool true)], args := ds }) (hrt : f.resultTypes = #[t]) (ht : P.underlying t = some .bool) (hb : Below W.heap.size W W') :
    s.post enc P f false true false false W args (.bool true) W' := by
  have hlt := hW.lt
  obtain ⟨p, q, h1, h2, rfl, h3, h4⟩ := id hW
  obtain ⟨_, rfl⟩ := trodVars_none h2
  simp only [List.append_nil] at hlt hW
  refine ⟨ds, [], p, [], p, [], by rw [hv]; exact hW, ?_, ?_, ?_, hb.frame _, fun h => by cases h⟩
  · rw [List.append_nil, hs, hrt]
    exact trodAll_mk1 (shut_bool ht true)
  · rw [List.append_nil, hs]
    exact trodAll_keep hlo hb hr h1 hlt
  · rw [List.append_nil, hs, hv]
    rfl
end
end Go.Proofs.Ytffofdfikmpanaa.A
