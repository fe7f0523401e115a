/- The layer A, part 3: calls, and what a step looks at. Conditions: none. -/
import Derived.Test.YtffofdfikmpanaaLB
import Derived.Orders
import Derived.RangeFuncMany
import Derived.OrdersIn
set_option linter.unusedVariables false
set_option linter.unusedSimpArgs false
set_option linter.constructorNameAsVariable false
set_option linter.unusedSectionVars false
namespace Go.Proofs.Ytffofdfikmpanaa.A
set_option linter.unusedVariables false
set_option linter.unusedSimpArgs false
section
variable {P : Program} {X : Nat → Prop} {w : World} {sl : List S} {F : Nat → Nat → Prop} {a : Act} {gv : List Value}
theorem set_eval {a : Act} {t : Nat} (h : t < a.tmps.size) (gv : List Value) : (a.tmps.toList ++ gv).set t (a.eval (.tmp t)) = a.tmps.toList ++ gv := by
  have := eval_tmp h gv
  apply List.ext_getElem?
  intro i
  by_cases hi : i = t
  · subst hi
    rw [List.getElem?_set_self (by simp; omega), this]
  · rw [List.getElem?_set_ne (Ne.symm hi)]
theorem prepA_run {H : Hints} {f : FuncId} : ∀ {args : List Operand} {sl : List S} {k : Nat} {F : Nat → Nat → Prop} {sl' : List S}, Sit P w X sl F a gv → (∀ x ∈ args, OkT a x) → prepA P H f sl k args = some sl' →
    ∃ F', Rel P w X sl' (a.tmps.toList ++ gv) F' ∧ To w F w F'
  | [], sl, k, F, sl', R, _, h => by simp only [prepA, Option.some.injEq] at h; subst h; exact ⟨F, R.rel, To.refl _ _⟩
  | x :: r, sl, k, F, sl', R, hx, h => by
    have hr : ∀ y ∈ r, OkT a y := fun y hy => hx y (List.mem_cons_of_mem _ hy)
    cases x with
    | tmp t =>
      have hxt : OkT a (.tmp t) := hx (.tmp t) (by simp)
      simp only [prepA] at h
      split at h
      · split at h
        · rename_i v sl1 h1
          split at h
          · rename_i sl2 h2
            obtain ⟨F1, R1, t1, hp⟩ := tkV_run R hxt h1
            obtain ⟨F2, R2, t2⟩ := give_pure R1 (hp.mono (fun _ h => h) (fun _ h => h) zs_zx fun _ _ => rfl) (dst := some t) h2
            simp only [setv] at R2
            rw [set_eval (hxt t rfl)] at R2
            obtain ⟨F3, R3, t3⟩ := prepA_run ⟨R2⟩ hr h
            exact ⟨F3, R3, (t1.trans t2).trans t3⟩
          · cases h
        · cases h
      · split at h
        · split at h
          · rename_i y sl1 h1
            split at h
            · rename_i sl2 h2
              obtain ⟨F1, R1, t1⟩ := tkO_run R hxt h1
              obtain ⟨F2, R2, t2⟩ := R1.lay h2
              rw [set_eval (hxt t rfl)] at R2
              obtain ⟨F3, R3, t3⟩ := prepA_run ⟨R2⟩ hr h
              exact ⟨F3, R3, (t1.trans t2).trans t3⟩
            · cases h
          · cases h
        · exact prepA_run R hr h
    | _ => simp only [prepA] at h; exact prepA_run R hr h
def Close (P : Program) (w : World) (X : Nat → Prop) (F : Nat → Nat → Prop) (sl : List S) (cv : List Value) (p : Pl) (me : Option Nat) (g : Value) (G : Nat → Prop) : Prop :=
  ∀ (x0 : T) (c0 : Value), sl[p.s]? = some (.t x0) → cv[p.s]? = some c0 → ∀ (w' : World) (Zs' Zx' : Nat → Prop) (y' : T) (F'' : Nat → Prop), (∀ b, zs w X F b → Zs' b) → (∀ b, zx w F b → Zx' b) →
    (∀ b, (F p.s b ∧ ¬ G b) ∨ zx w F b → w'.heap[b]? = w.heap[b]?) → TRep P w' Zs' Zx' me y' g F'' → (∀ b, F'' b → G b ∨ ¬ F p.s b) → (∀ v, y' = .p v → v.one = true) →
    TRep P w' Zs' Zx' none (T.put y' p.path x0) c0 (fun b => (F p.s b ∧ ¬ G b) ∨ F'' b) ∧ ∀ q r, p.path = q ++ r → cAt w' c0 q = cAt w c0 q
theorem Rel.nodeC {cv : List Value} (R : Rel P w X sl cv F) {p : Pl} {y : T} {g : Value} (hz : slAt sl p = some y) (hc : cvAt w cv p = some g) :
    ∃ me G, TRep P w (zs w X F) (zx w F) me y g G ∧ (∀ b, G b → F p.s b) ∧ Close P w X F sl cv p me g G := by
  simp only [slAt] at hz
  simp only [cvAt] at hc
  cases hs : sl[p.s]? with
  | none => simp [hs] at hz
  | some s =>
    cases hv : cv[p.s]? with
    | none => simp [hv] at hc
    | some c0 =>
      simp only [hs] at hz
      simp only [hv] at hc
      cases s with
      | t x0 =>
        have ht : TRep P w (zs w X F) (zx w F) none x0 c0 (F p.s) := R.slot p.s _ c0 hs hv
        obtain ⟨me', c', F', h1, h2, h3, h4⟩ := ht.way p.path hz
        rw [hc] at h1; cases h1
        refine ⟨me', F', h2, h3, fun x1 c1 e1 e2 w' Zs' Zx' y' F'' g1 g2 g3 g4 g5 g6 => ?_⟩
        rw [hs] at e1; cases e1
        rw [hv] at e2; cases e2
        exact h4 w' Zs' Zx' y' F'' zs_zx g1 g2 g3 g4 g5 g6
      | _ => simp at hz
def PassOk (P : Program) (w : World) (X : Nat → Prop) (F : Nat → Nat → Prop) (sl : List S) (cv : List Value) (ps : Pass) (c g : Value) (G : Nat → Prop) : Prop :=
  match ps with
  | ⟨.v v, none, none⟩ => PRep w (zs w X F) (zx w F) v c ∧ ∀ b, ¬ G b
  | ⟨.v v, none, some s⟩ => (∀ b, ¬ G b) ∧ ∀ Zs Zx : Nat → Prop, (∀ b, zs w X F b → Zs b) → (∀ b, zx w F b → Zx b) → (∀ b, F s b → Zx b) → PRep w Zs Zx v c
  | ⟨.mv y, some p, none⟩ => p.path = [] ∧ slAt sl p = some y ∧ cvAt w cv p = some c ∧ TRep P w (zs w X F) (zx w F) none y c G ∧ ∀ b, G b ↔ F p.s b
  | ⟨.io y vw, some p, none⟩ => slAt sl p = some y ∧ cvAt w cv p = some g ∧ y ≠ .self ∧ (∃ me, TRep P w (zs w X F) (zx w F) me y g G ∧ Close P w X F sl cv p me g G) ∧ (∀ b, G b → F p.s b) ∧
      match vw with
      | .pt => BRep P y g (.bpt p 0 0) c
      | .sl off len => BRep P y g (.bsl p off len false) c
  | _ => False
theorem readA_run (R : Sit P w X sl F a gv) {t : TypeId} {m : Nat} {x : Operand} (hx : OkT a x) {ps : Pass} (h : readA P t sl m x = some ps) : ∃ g G, PassOk P w X F sl (a.tmps.toList ++ gv) ps (a.eval x) g G := by
  unfold readA at h
  split at h
  · rename_i t0 hm
    have hxt : x = .tmp t0 := by
      unfold mvSlot at hm
      split at hm
      · cases x <;> simp at hm; subst hm; rfl
      · cases hm
    subst hxt
    split at h
    · rename_i y hy
      cases h
      have hc := eval_tmp (hx t0 rfl) gv
      exact ⟨undef, F t0, rfl, slAt_nil hy, cvAt_nil hc, R.rel.slot t0 _ _ hy hc, fun _ => Iff.rfl⟩
    · cases h
  · split at h
    · rename_i v hr
      cases h
      exact ⟨undef, fun _ => False, PRep.laxV (rd_val R hx hr) zs_zx t m, fun _ => id⟩
    · rename_i ty hr
      cases h
      have : a.eval x = .slice none 0 0 := rd_val R hx hr rfl
      rw [this]
      exact ⟨undef, fun _ => False, PRep.laxV (.sl0 _ _ _ _ _ fun _ => rfl) zs_zx t m, fun _ => id⟩
    · rename_i p hr
      split at h
      · rename_i ty cs hz
        cases h
        obtain ⟨q, z, cz, hq, hz', hcz, hb⟩ := rd_val R hx hr
        cases hq
        rw [hz] at hz'; cases hz'
        obtain ⟨me, G, hT, hsub, hcl⟩ := R.rel.nodeC hz hcz
        exact ⟨cz, G, hz, hcz, by simp, ⟨me, hT, hcl⟩, hsub, hb⟩
      · cases h
    · rename_i p off len ex hr
      split at h
      · rename_i ty es hz
        obtain ⟨q, z, cz, hq, hz', hcz, hb⟩ := rd_val R hx hr
        cases hq
        rw [hz] at hz'; cases hz'
        obtain ⟨me, G, hT, hsub, hcl⟩ := R.rel.nodeC hz hcz
        split at h
        · cases h
          refine ⟨cz, G, hz, hcz, by simp, ⟨me, hT, hcl⟩, hsub, ?_⟩
          obtain ⟨ty', es', ad, L, cap, ad', cap', h1, h2, h3, h4, h5, h6, _, h8⟩ := hb
          exact ⟨ty', es', ad, L, cap, ad', cap', h1, h2, h3, h4, h5, h6, by simp, h8⟩
        · cases h
          exact ⟨undef, fun _ => False, fun _ => id, fun Zs Zx hs hx' hs' => (own_sl hT hb true (fun b hb => hs' b (hsub b hb)) hs fun _ _ => rfl).noEx⟩
      · cases h
    · rename_i p j len hr
      split at h
      · rename_i sz es he
        cases h
        have hv := rd_val R hx hr
        have hels := elems_val R hv he
        obtain ⟨q, z, cz, hq, hz, hcz, ty, cs, b, ad, cap, rfl, rfl, hc, hlc, hjc, hadr⟩ := hv
        cases hq
        obtain ⟨me, G, hT, hsub⟩ := R.rel.node hz hcz
        refine ⟨undef, fun _ => False, fun _ => id, fun Zs Zx hs hx' hs' => ?_⟩
        obtain ⟨ad', cap', hc', hle, hcell⟩ := hels.ex
        rw [hc] at hc' ⊢
        injection hc' with e1 e2 e3
        subst e1; subst e2; subst e3
        by_cases hne : es = []
        · subst hne
          exact .sl0 _ _ _ _ _ (by simp)
        · obtain ⟨b', o, hb', hcl⟩ := hcell hne
          have hcap : cap ≠ 0 := by have := List.length_pos_iff.2 hne; omega
          have hb := hadr.resolve_left hcap
          rw [hb'] at hb
          cases hb
          subst hb'
          have hG : G b := by cases hT with | opt _ _ _ _ _ _ _ _ _ _ _ hF => exact (hF b).2 (.inl rfl)
          exact .sl true false sz es b j cap (by simp) hle (hs' b (hsub b hG)) hels.len hels.one (fun i j e v h1 h2 => let ⟨c, h3, _⟩ := hcl i j e v h1 h2; ⟨c, h3⟩)
            fun i j e v c h1 h2 h3 => by
              obtain ⟨c', h4, h5⟩ := hcl i j e v h1 h2
              rw [h3] at h4; cases h4
              exact h5.mono (fun _ h => h) hs hs fun _ _ => rfl
      · cases h
    · cases h
end
end Go.Proofs.Ytffofdfikmpanaa.A
namespace Go.Proofs.Ytffofdfikmpanaa.A
set_option linter.unusedVariables false
set_option linter.unusedSimpArgs false
section
variable {P : Program} {X : Nat → Prop} {w : World} {sl : List S} {F : Nat → Nat → Prop} {a : Act} {gv : List Value}
theorem readAll_run {H : Hints} {f : FuncId} (R : Sit P w X sl F a gv) : ∀ {args : List Operand} {k : Nat} {ps : List Pass}, (∀ x ∈ args, OkT a x) → readAll P H f sl k args = some ps →
    ps.length = args.length ∧ ∃ (gs : List Value) (G : Nat → Nat → Prop), gs.length = args.length ∧ ∀ (i : Nat) (pa : Pass) (c g : Value), ps[i]? = some pa → (args.map a.eval)[i]? = some c → gs[i]? = some g → PassOk P w X F sl (a.tmps.toList ++ gv) pa c g (G i)
  | [], k, ps, _, h => by
    simp only [readAll, Option.some.injEq] at h; subst h
    exact ⟨rfl, [], fun _ _ => False, rfl, by simp⟩
  | x :: r, k, ps, hx, h => by
    simp only [readAll] at h
    split at h
    · rename_i pa h1
      split at h
      · rename_i l h2
        cases h
        obtain ⟨hl, gs, G, hg, hok⟩ := readAll_run R (fun y hy => hx y (List.mem_cons_of_mem _ hy)) h2
        obtain ⟨g, G0, h0⟩ := readA_run R (hx x (by simp)) h1
        refine ⟨by simp [hl], g :: gs, fun i => match i with | 0 => G0 | i + 1 => G i, by simp [hg], fun i pa' c g' h3 h4 h5 => ?_⟩
        cases i with
        | zero => simp at h3 h4 h5; subst h3; subst h4; subst h5; exact h0
        | succ i => simp at h3 h4 h5; exact hok i pa' c g' h3 (by simpa using h4) h5
      · cases h
    · cases h
def param (n i : Nat) : Arg → S
  | .v x => .t (.p x)
  | .mv x => .t x
  | .io x .pt => .bpt ⟨n + i, []⟩ 0 0
  | .io x (.sl off len) => .bsl ⟨n + i, []⟩ off len false
theorem params_get (n : Nat) : ∀ (l : List Arg) (k i : Nat), (params n k l)[i]? = (l[i]?).map (param n (k + i))
  | [], k, i => by simp [params]
  | x :: l, k, i => by
    have ih := params_get n l (k + 1)
    cases i with
    | zero =>
      cases x with
      | io x vw => cases vw <;> simp [params, param]
      | _ => simp [params, param]
    | succ i =>
      have := ih i
      rw [show k + 1 + i = k + (i + 1) by omega] at this
      cases x with
      | io x vw => cases vw <;> simp [params, this]
      | _ => simp [params, this]
theorem params_len (n : Nat) : ∀ (l : List Arg) (k : Nat), (params n k l).length = l.length
  | [], k => rfl
  | x :: l, k => by
    have ih := params_len n l (k + 1)
    cases x with
    | io x vw => cases vw <;> simp [params, ih]
    | _ => simp [params, ih]
theorem distinct_hand : ∀ {l : List Pass}, distinct (l.filterMap fun a => a.hand.map (·.s)) = true → ∀ {i j : Nat} {a b : Pass} {p q : Pl}, l[i]? = some a → l[j]? = some b → a.hand = some p → b.hand = some q → p.s = q.s → i = j
  | [], _, i, j, a, b, p, q, h, _, _, _, _ => by simp at h
  | x :: l, hd, i, j, a, b, p, q, hi, hj, ha, hb, hs => by
    have htail : distinct (l.filterMap fun a => a.hand.map (·.s)) = true := by
      rw [List.filterMap_cons] at hd
      split at hd
      · exact hd
      · simp only [distinct, Bool.and_eq_true] at hd; exact hd.2
    have head : ∀ {k : Nat} {c : Pass} {r t : Pl}, l[k]? = some c → c.hand = some r → x.hand = some t → t.s = r.s → False := by
      intro k c r t hk hc hx ht
      rw [List.filterMap_cons] at hd
      simp only [hx, Option.map_some, distinct, Bool.and_eq_true, Bool.not_eq_true', List.contains_eq_mem, decide_eq_false_iff_not] at hd
      exact hd.1 (List.mem_filterMap.2 ⟨c, List.mem_of_getElem? hk, by simp [hc, ht]⟩)
    cases i with
    | zero =>
      cases j with
      | zero => rfl
      | succ j => simp at hi hj; subst hi; exact (head hj hb ha hs).elim
    | succ i =>
      cases j with
      | zero => simp at hi hj; subst hj; exact (head hi ha hb hs.symm).elim
      | succ j => simp at hi hj; rw [distinct_hand htail hi hj ha hb hs]
theorem apart_look {l : List Pass} (h : apartB l = true) {i j : Nat} {a b : Pass} {s : Nat} {q : Pl} (hi : l[i]? = some a) (hj : l[j]? = some b) (ha : a.look = some s) (hb : b.hand = some q) : q.s ≠ s := by
  simp only [apartB, Bool.and_eq_true, List.all_eq_true] at h
  have := h.2 a (List.mem_of_getElem? hi)
  simp only [ha, Bool.not_eq_true', List.any_eq_false] at this
  have := this b (List.mem_of_getElem? hj)
  simpa [hb] using this
def calleeF (n : Nat) (ps : List Pass) (G : Nat → Nat → Prop) : Nat → Nat → Prop := fun i b =>
  (∃ y q, ps[i]? = some ⟨.mv y, some q, none⟩ ∧ G i b) ∨ (∃ k y vw q, i = n + k ∧ ps[k]? = some ⟨.io y vw, some q, none⟩ ∧ G k b)
def calleeX (X : Nat → Prop) (F Fc : Nat → Nat → Prop) : Nat → Prop := fun b => X b ∨ ∃ i, F i b ∧ ∀ j, ¬ Fc j b
theorem calleeF_hand {cv : List Value} {ps : List Pass} {cs gs : List Value} {G : Nat → Nat → Prop} {n : Nat} (hlc : cs.length = ps.length) (hlg : gs.length = ps.length)
    (hok : ∀ (i : Nat) (pa : Pass) (c g : Value), ps[i]? = some pa → cs[i]? = some c → gs[i]? = some g → PassOk P w X F sl cv pa c g (G i)) {i b : Nat} (h : calleeF n ps G i b) :
    ∃ k pa p, ps[k]? = some pa ∧ pa.hand = some p ∧ F p.s b ∧ G k b ∧ ((i = k ∧ ∃ y, pa.arg = .mv y) ∨ (i = n + k ∧ ∃ y vw, pa.arg = .io y vw)) := by
  have get : ∀ {k : Nat} {pa : Pass}, ps[k]? = some pa → ∃ c g, PassOk P w X F sl cv pa c g (G k) := by
    intro k pa hk
    have hlt := (List.getElem?_eq_some_iff.1 hk).1
    exact ⟨_, _, hok k pa _ _ hk (List.getElem?_eq_getElem (by omega)) (List.getElem?_eq_getElem (by omega))⟩
  rcases h with ⟨y, q, hk, hb⟩ | ⟨k, y, vw, q, hi, hk, hb⟩
  · obtain ⟨c, g, hp⟩ := get hk
    exact ⟨i, _, q, hk, rfl, (hp.2.2.2.2 b).1 hb, hb, .inl ⟨rfl, y, rfl⟩⟩
  · obtain ⟨c, g, hp⟩ := get hk
    exact ⟨k, _, q, hk, rfl, hp.2.2.2.2.1 b hb, hb, .inr ⟨hi, y, vw, rfl⟩⟩
theorem callee_rel {cv : List Value} (R : Rel P w X sl cv F) {ps : List Pass} {cs gs : List Value} {G : Nat → Nat → Prop} {n : Nat} (hlc : cs.length = ps.length) (hlg : gs.length = ps.length)
    (hok : ∀ (i : Nat) (pa : Pass) (c g : Value), ps[i]? = some pa → cs[i]? = some c → gs[i]? = some g → PassOk P w X F sl cv pa c g (G i)) (hap : apartB ps = true) (hn : ps.length ≤ n) :
    Rel P w (calleeX X F (calleeF n ps G)) (frame n (ps.map (·.arg))) (cs ++ List.replicate (n - ps.length) undef ++ gs) (calleeF n ps G) := by
  have hand := fun {i b : Nat} (h : calleeF n ps G i b) => calleeF_hand hlc hlg hok h
  have hdis : distinct (ps.filterMap fun a => a.hand.map (·.s)) = true := by simp only [apartB, Bool.and_eq_true] at hap; exact hap.1
  -- what the slots hold
  have hpl : (params n 0 (ps.map (·.arg))).length = ps.length := by rw [params_len]; simp
  have hml : (params n 0 (ps.map (·.arg)) ++ List.replicate (n - (ps.map (·.arg)).length) (S.t .dead)).length = n := by rw [List.length_append, hpl]; simp; omega
  have hcl : (cs ++ List.replicate (n - ps.length) undef).length = n := by simp [hlc]; omega
  have get1 : ∀ {i : Nat} {pa : Pass}, ps[i]? = some pa → (frame n (ps.map (·.arg)))[i]? = some (param n i pa.arg) := by
    intro i pa hi
    have hlt := (List.getElem?_eq_some_iff.1 hi).1
    unfold frame
    rw [List.getElem?_append_left (by omega), List.getElem?_append_left (by omega), params_get]
    simp [hi]
  have get2 : ∀ {i : Nat}, ps.length ≤ i → i < n → (frame n (ps.map (·.arg)))[i]? = some (.t .dead) := by
    intro i h1 h2
    unfold frame
    rw [List.getElem?_append_left (by omega), List.getElem?_append_right (by omega), hpl, List.getElem?_replicate, if_pos (by simp; omega)]
  have get3 : ∀ {k : Nat} {pa : Pass}, ps[k]? = some pa → (frame n (ps.map (·.arg)))[n + k]? = some (anchor pa.arg) := by
    intro k pa hk
    unfold frame
    rw [List.getElem?_append_right (by omega), hml]
    simp [hk]
  have val1 : ∀ {i : Nat}, i < ps.length → (cs ++ List.replicate (n - ps.length) undef ++ gs)[i]? = cs[i]? := by
    intro i hi
    rw [List.getElem?_append_left (by omega), List.getElem?_append_left (by omega)]
  have val3 : ∀ {k : Nat}, (cs ++ List.replicate (n - ps.length) undef ++ gs)[n + k]? = gs[k]? := by
    intro k
    rw [List.getElem?_append_right (by omega), hcl]; congr 1; omega
  have hzx : ∀ b, zx w F b → zx w (calleeF n ps G) b := fun b hb => ⟨hb.1, fun i hi => let ⟨k, pa, p, _, _, hF, _⟩ := hand hi; hb.2 _ hF⟩
  have hzs : ∀ b, zs w X F b → zs w (calleeX X F (calleeF n ps G)) (calleeF n ps G) b := fun b hb => ⟨hzx b hb.1, fun hx => hx.elim hb.2 fun ⟨i, hi, _⟩ => hb.1.2 i hi⟩
  refine ⟨?_, ?_, ?_, ?_, ?_, ?_⟩
  · unfold frame
    rw [List.length_append, hml]
    simp [hlc, hlg]; omega
  · intro i b hb
    obtain ⟨k, pa, p, _, _, hF, _⟩ := hand hb
    exact R.lt _ b hF
  · intro i j b hi hj
    obtain ⟨k, pa, p, h1, h2, h3, _, h4⟩ := hand hi
    obtain ⟨k', pa', p', h1', h2', h3', _, h4'⟩ := hand hj
    have hk : k = k' := distinct_hand hdis h1 h1' h2 h2' (R.disj _ _ b h3 h3')
    subst hk
    rw [h1] at h1'; cases h1'
    rcases h4 with ⟨e, y, hy⟩ | ⟨e, y, vw, hy⟩ <;> rcases h4' with ⟨e', y', hy'⟩ | ⟨e', y', vw', hy'⟩
    · rw [e, e']
    · rw [hy] at hy'; cases hy'
    · rw [hy] at hy'; cases hy'
    · rw [e, e']
  · intro i b hi hx
    obtain ⟨k, pa, p, h1, h2, h3, _, h4⟩ := hand hi
    rcases hx with hx | ⟨j, hj, hno⟩
    · exact R.apart _ b h3 hx
    · exact hno i hi
  · intro b hx
    rcases hx with hx | ⟨j, hj, hno⟩
    · exact R.xlt b hx
    · exact R.lt j b hj
  · intro i s c hs hc
    by_cases h1 : i < ps.length
    · have hpi : ps[i]? = some ps[i] := List.getElem?_eq_getElem h1
      generalize ps[i] = pa at hpi
      rw [get1 hpi] at hs
      cases hs
      rw [val1 h1] at hc
      have hgi : gs[i]? = some gs[i] := List.getElem?_eq_getElem (by omega)
      have hp := hok i pa c _ hpi hc hgi
      have empty : (∀ y, pa.arg ≠ .mv y) → ∀ b, ¬ calleeF n ps G i b := by
        intro hne b hb
        rcases hb with ⟨y, q, hk, _⟩ | ⟨k, y, vw, q, hi, _, _⟩
        · rw [hpi] at hk; cases hk; exact hne y rfl
        · omega
      have borrow : ∀ {y : T} {vw : Vw} {p : Pl}, pa = ⟨.io y vw, some p, none⟩ → slAt (frame n (ps.map (·.arg))) ⟨n + i, []⟩ = some y ∧ cvAt w (cs ++ List.replicate (n - ps.length) undef ++ gs) ⟨n + i, []⟩ = some gs[i] := by
        intro y vw p he
        subst he
        exact ⟨slAt_nil (get3 hpi), cvAt_nil (by rw [val3]; exact hgi)⟩
      obtain ⟨arg, hd, lk⟩ := pa
      cases arg with
      | v v =>
        cases hd with
        | some p => exact hp.elim
        | none =>
          cases lk with
          | none => exact .p none v c _ (hp.1.mono zs_zx hzs hzx fun _ _ => rfl) (empty (by simp))
          | some s =>
            refine .p none v c _ (hp.2 _ _ hzs hzx fun b hb => ⟨R.lt s b hb, fun j hj => ?_⟩) (empty (by simp))
            obtain ⟨k, pa, p, g1, g2, g3, _⟩ := hand hj
            exact apart_look hap hpi g1 rfl g2 (R.disj _ _ b g3 hb)
      | mv y =>
        cases hd with
        | none => exact hp.elim
        | some p =>
          cases lk with
          | some s => exact hp.elim
          | none =>
            have hfe : ∀ b, G i b ↔ calleeF n ps G i b := fun b => ⟨fun hb => .inl ⟨y, p, hpi, hb⟩, fun hb => by
              rcases hb with ⟨y', q, hk, hb⟩ | ⟨k, y', vw, q, hi, _, _⟩
              · exact hb
              · omega⟩
            exact (hp.2.2.2.1.mono zs_zx hzs hzx fun _ _ => rfl).iff hfe
      | io y vw =>
        cases hd with
        | none => exact hp.elim
        | some p =>
          cases lk with
          | some s => exact hp.elim
          | none =>
            obtain ⟨k1, k2⟩ := borrow rfl
            cases vw with
            | pt => exact ⟨empty (by simp), _, y, _, rfl, k1, k2, hp.2.2.2.2.2⟩
            | sl off len => exact ⟨empty (by simp), _, y, _, rfl, k1, k2, hp.2.2.2.2.2⟩
    · by_cases h2 : i < n
      · rw [get2 (by omega) h2] at hs
        cases hs
        refine .dead none c _ fun b hb => ?_
        rcases hb with ⟨y, q, hk, _⟩ | ⟨k, y, vw, q, hi, _, _⟩
        · have := (List.getElem?_eq_some_iff.1 hk).1; omega
        · omega
      · obtain ⟨k, rfl⟩ : ∃ k, i = n + k := ⟨i - n, by omega⟩
        rw [val3] at hc
        have hk : k < ps.length := by have := (List.getElem?_eq_some_iff.1 hc).1; omega
        have hpi : ps[k]? = some ps[k] := List.getElem?_eq_getElem hk
        generalize ps[k] = pa at hpi
        rw [get3 hpi] at hs
        cases hs
        have hci : cs[k]? = some cs[k] := List.getElem?_eq_getElem (by omega)
        have hp := hok k pa _ c hpi hci hc
        have empty : (∀ y vw, pa.arg ≠ .io y vw) → ∀ b, ¬ calleeF n ps G (n + k) b := by
          intro hne b hb
          rcases hb with ⟨y, q, hk', _⟩ | ⟨k', y, vw, q, hi, hk', _⟩
          · have := (List.getElem?_eq_some_iff.1 hk').1; omega
          · have : k = k' := by omega
            subst this
            rw [hpi] at hk'; cases hk'; exact hne y vw rfl
        obtain ⟨arg, hd, lk⟩ := pa
        cases arg with
        | v v => exact .dead none c _ (empty (by simp))
        | mv y => exact .dead none c _ (empty (by simp))
        | io y vw =>
          cases hd with
          | none => exact hp.elim
          | some p =>
            cases lk with
            | some s => exact hp.elim
            | none =>
              obtain ⟨me, hT, _⟩ := hp.2.2.2.1
              have hfe : ∀ b, G k b ↔ calleeF n ps G (n + k) b := fun b => ⟨fun hb => .inr ⟨k, y, vw, p, rfl, hpi, hb⟩, fun hb => by
                rcases hb with ⟨y', q, hk', hb⟩ | ⟨k', y', vw', q, hi, _, hb⟩
                · have := (List.getElem?_eq_some_iff.1 hk').1; omega
                · have : k = k' := by omega
                  subst this; exact hb⟩
              exact ((hT.mono zs_zx hzs hzx fun _ _ => rfl).iff hfe).anyMe hp.2.2.1
end
end Go.Proofs.Ytffofdfikmpanaa.A
namespace Go.Proofs.Ytffofdfikmpanaa.A
set_option linter.unusedVariables false
set_option linter.unusedSimpArgs false
section
variable {P : Program} {X : Nat → Prop} {w : World} {sl : List S} {F : Nat → Nat → Prop} {a : Act} {gv : List Value}
theorem stabT_get : ∀ {l : List T}, T.stabL l = true → ∀ (i : Nat) (t : T), l[i]? = some t → t.stab = true
  | [], _, i, t, h => by simp at h
  | x :: l, hs, i, t, h => by
    simp only [T.stabL, Bool.and_eq_true] at hs
    cases i with
    | zero => simp at h; subst h; exact hs.1
    | succ i => simp at h; exact stabT_get hs.2 i t h
theorem TRep.stay {Zs Zx Zx' : Nat → Prop} {me : Option Nat} {x : T} {c : Value} {G : Nat → Prop} (h : TRep P w Zs Zx me x c G) (hz : ∀ b, Zs b → Zx' b) (hs : x.stab = true) : TRep P w Zs Zx' me x c G := by
  induction h with
  | p me v c F h hF => exact .p me v c F ((h.stay (by simpa [T.stab] using hs)).mono (fun _ h => h) (fun _ h => h) hz fun _ _ => rfl) hF
  | own0 me ty ad F hF hn => exact .own0 me ty ad F hF hn
  | own me ty es b off cap vs fz F hw0 hc hsz hpos hfz hcl h1 h hF => exact .own me ty es b off cap vs fz F hw0 hc hsz hpos hfz hcl h1 h hF
  | opt me ty cs b vs F G hw0 hl h1 h hF hb hd ih => exact .opt me ty cs b vs F G hw0 hl h1 (fun i t c k1 h2 => ih i t c k1 h2 (stabT_get (by simpa [T.stab] using hs) i t k1)) hF hb hd
  | self b F hF => exact .self b F hF
  | tup me cs vs F G hl h hF hd ih => exact .tup me cs vs F G hl (fun i t c k1 h2 => ih i t c k1 h2 (stabT_get (by simpa [T.stab] using hs) i t k1)) hF hd
  | agg me cs vs F G hl h1 h hF hd ih => exact .agg me cs vs F G hl h1 (fun i t c k1 h2 => ih i t c k1 h2 (stabT_get (by simpa [T.stab] using hs) i t k1)) hF hd
  | ifc me t x c F h ih => exact .ifc me t x c F (ih (by simpa [T.stab] using hs))
  | clo me f x c F h ih => exact .clo me f x c F (ih (by simpa [T.stab] using hs))
  | dead me c F hF => exact .dead me c F hF
def keepAll (ps : List Pass) (q : Pl) : Bool := ps.all fun pa => match pa with
  | ⟨.io _ _, some p, _⟩ => p.keep true q
  | ⟨.mv _, some p, _⟩ => p.keep false q
  | _ => true
theorem map_killBy_t {o : Option S} {kp : Pl → Bool} {z : T} (h : o.map (S.killBy kp) = some (.t z)) : o = some (.t z) ∨ z = .dead := by
  cases o with
  | none => simp at h
  | some s =>
    simp only [Option.map_some, Option.some.injEq] at h
    cases s <;> simp only [S.killBy] at h <;> first
      | (cases h; exact .inl rfl)
      | (split at h <;> first | cases h; done | (cases h; exact .inr rfl))
theorem likeB_dead {x : T} {path : List Nat} {y : T} (h : (T.dead).at path = some y) (hl : y.likeB x = true) : False := by
  cases path with
  | nil => simp only [T.at, Option.some.injEq] at h; subst h; simp [T.likeB] at hl
  | cons j r => simp [T.at, T.kids] at h
structure Back (sl sl2 : List S) (ps : List Pass) (outs : List T) : Prop where
  lo : outs.length = ps.length
  ls : sl2.length = sl.length
  io : ∀ (k : Nat) (y : T) (vw : Vw) (p : Pl) (lk : Option Nat) (x : T), ps[k]? = some ⟨.io y vw, some p, lk⟩ → outs[k]? = some x → ∃ z y0, sl[p.s]? = some (.t z) ∧ z.at p.path = some y0 ∧ y0.likeB x = true ∧ sl2[p.s]? = some (.t (T.put x p.path z))
  mv : ∀ (k : Nat) (y : T) (p : Pl) (lk : Option Nat), ps[k]? = some ⟨.mv y, some p, lk⟩ → ∃ z, sl2[p.s]? = some (.t (T.put .dead p.path z))
  rest : ∀ i, (∀ (k : Nat) (pa : Pass) (p : Pl), ps[k]? = some pa → pa.hand = some p → p.s ≠ i) → sl2[i]? = (sl[i]?).map (S.killBy (keepAll ps))
theorem backs_get : ∀ {ps : List Pass} {outs : List T} {sl sl2 : List S}, backs sl ps outs = some sl2 → distinct (ps.filterMap fun a => a.hand.map (·.s)) = true → Back sl sl2 ps outs
  | [], [], sl, sl2, h, _ => by
    simp only [backs, Option.some.injEq] at h; subst h
    refine ⟨rfl, rfl, by simp, by simp, fun i _ => ?_⟩
    have : keepAll [] = fun _ => true := by funext q; rfl
    rw [this]
    cases sl[i]? with
    | none => rfl
    | some s => simp [killBy_true]
  | [], x :: xs, sl, sl2, h, _ => by simp [backs] at h
  | pa :: ps, xs, sl, sl2, h, hd => by
    have hd' : distinct (ps.filterMap fun a => a.hand.map (·.s)) = true := by
      rw [List.filterMap_cons] at hd
      split at hd
      · exact hd
      · simp only [distinct, Bool.and_eq_true] at hd; exact hd.2
    -- the first place, and the others
    have head : ∀ {p : Pl} {y' : T} {kk : Bool} {x : T} {xs' : List T} {sl1 : List S}, pa.hand = some p → putN sl p y' kk = some sl1 → Back sl1 sl2 ps xs' → (∀ q, keepAll (pa :: ps) q = (p.keep kk q && keepAll ps q)) →
        sl2.length = sl.length ∧ (∃ z, sl[p.s]? = some (.t z) ∧ sl2[p.s]? = some (.t (T.put y' p.path z))) ∧
        (∀ (k : Nat) (y : T) (vw : Vw) (p' : Pl) (lk : Option Nat) (x : T), ps[k]? = some ⟨.io y vw, some p', lk⟩ → xs'[k]? = some x → ∃ z y0, sl[p'.s]? = some (.t z) ∧ z.at p'.path = some y0 ∧ y0.likeB x = true ∧ sl2[p'.s]? = some (.t (T.put x p'.path z))) ∧
        ∀ i, (∀ (k : Nat) (pa' : Pass) (p : Pl), (pa :: ps)[k]? = some pa' → pa'.hand = some p → p.s ≠ i) → sl2[i]? = (sl[i]?).map (S.killBy (keepAll (pa :: ps))) := by
      intro p y' kk x xs' sl1 hp hput B hk
      obtain ⟨z, hz, hlt, hl1, hget, hother⟩ := putN_get hput
      have hne : ∀ (k : Nat) (pa' : Pass) (p' : Pl), ps[k]? = some pa' → pa'.hand = some p' → p'.s ≠ p.s := fun k pa' p' h1 h2 he => by
        have := distinct_hand hd (i := 0) (j := k + 1) (by simp) (by simpa using h1) hp h2 he.symm
        omega
      refine ⟨B.ls.trans hl1, ⟨z, hz, ?_⟩, fun k y vw p' lk x' h1 h2 => ?_, fun i hi => ?_⟩
      · rw [B.rest p.s hne, hget]; rfl
      · obtain ⟨z', y0, g1, g2, g3, g4⟩ := B.io k y vw p' lk x' h1 h2
        rw [hother p'.s (hne k _ p' h1 rfl)] at g1
        rcases map_killBy_t g1 with g1 | rfl
        · exact ⟨z', y0, g1, g2, g3, g4⟩
        · exact (likeB_dead g2 g3).elim
      · rw [B.rest i fun k pa' p' h1 h2 => hi (k + 1) pa' p' (by simpa using h1) h2, hother i (Ne.symm (hi 0 pa p (by simp) hp))]
        have : keepAll (pa :: ps) = fun q => keepAll ps q && p.keep kk q := by funext q; rw [hk, Bool.and_comm]
        rw [this]
        cases sl[i]? with
        | none => rfl
        | some s => simp only [Option.map_some, killBy_and]
    obtain ⟨arg, hand, lk⟩ := pa
    cases arg with
    | v v =>
      cases hand with
      | some p => simp [backs] at h
      | none =>
        cases xs with
        | nil => simp [backs] at h
        | cons x xs =>
          simp only [backs] at h
          have B := backs_get h hd'
          refine ⟨by simp [B.lo], B.ls, fun k y vw p lk' x' h1 h2 => ?_, fun k y p lk' h1 => ?_, fun i hi => ?_⟩
          · cases k with
            | zero => simp at h1
            | succ k => simp at h1 h2; exact B.io k y vw p lk' x' h1 h2
          · cases k with
            | zero => simp at h1
            | succ k => simp at h1; exact B.mv k y p lk' h1
          · have : keepAll (⟨.v v, none, lk⟩ :: ps) = keepAll ps := by funext q; simp [keepAll]
            rw [this]
            exact B.rest i fun k pa' p' h1 h2 => hi (k + 1) pa' p' (by simpa using h1) h2
    | mv y =>
      cases hand with
      | none => simp [backs] at h
      | some p =>
        cases xs with
        | nil => simp [backs] at h
        | cons x xs =>
          simp only [backs] at h
          split at h
          · rename_i sl1 hput
            have B := backs_get h hd'
            obtain ⟨k1, ⟨z, k2, k3⟩, k4, k5⟩ := head (x := x) rfl hput B (fun q => by simp [keepAll])
            refine ⟨by simp [B.lo], k1, fun k y' vw p' lk' x' h1 h2 => ?_, fun k y' p' lk' h1 => ?_, k5⟩
            · cases k with
              | zero => simp at h1
              | succ k => simp at h1 h2; exact k4 k y' vw p' lk' x' h1 h2
            · cases k with
              | zero => simp at h1; obtain ⟨_, rfl, _⟩ := h1; exact ⟨z, k3⟩
              | succ k => simp at h1; exact B.mv k y' p' lk' h1
          · cases h
    | io y vw =>
      cases hand with
      | none => simp [backs] at h
      | some p =>
        cases xs with
        | nil => simp [backs] at h
        | cons x xs =>
          simp only [backs] at h
          split at h
          · rename_i y0 hy0
            split at h
            · rename_i hlike
              split at h
              · rename_i sl1 hput
                have B := backs_get h hd'
                obtain ⟨k1, ⟨z, k2, k3⟩, k4, k5⟩ := head (x := x) rfl hput B (fun q => by simp [keepAll])
                refine ⟨by simp [B.lo], k1, fun k y' vw' p' lk' x' h1 h2 => ?_, fun k y' p' lk' h1 => ?_, k5⟩
                · cases k with
                  | zero =>
                    simp at h1 h2
                    obtain ⟨_, rfl, _⟩ := h1
                    subst h2
                    simp only [slAt, k2] at hy0
                    exact ⟨z, y0, k2, hy0, hlike, k3⟩
                  | succ k => simp at h1 h2; exact k4 k y' vw' p' lk' x' h1 h2
                · cases k with
                  | zero => simp at h1
                  | succ k => simp at h1; exact B.mv k y' p' lk' h1
              · cases h
            · cases h
          · cases h
theorem likeB_like {x y : T} (h : x.likeB y = true) : x.like y := by
  cases x <;> cases y <;> simp [T.likeB] at h <;> exact h
end
end Go.Proofs.Ytffofdfikmpanaa.A
namespace Go.Proofs.Ytffofdfikmpanaa.A
set_option linter.unusedVariables false
set_option linter.unusedSimpArgs false
section
variable {P : Program} {X : Nat → Prop} {w : World} {sl : List S} {F : Nat → Nat → Prop} {a : Act} {gv : List Value}
theorem call_back {cv : List Value} (R : Rel P w X sl cv F) {ps : List Pass} {cs gs : List Value} {G : Nat → Nat → Prop} {n : Nat} (hlc : cs.length = ps.length) (hlg : gs.length = ps.length)
    (hok : ∀ (i : Nat) (pa : Pass) (c g : Value), ps[i]? = some pa → cs[i]? = some c → gs[i]? = some g → PassOk P w X F sl cv pa c g (G i)) (hap : apartB ps = true) (hn : ps.length ≤ n)
    {w' : World} {F' : Nat → Nat → Prop} {r : T} {outs : List T} {c : Value} {sl2 : List S}
    (R' : Rel P w' (calleeX X F (calleeF n ps G)) (.t r :: outs.map .t) (c :: gs) F') (t' : To w (calleeF n ps G) w' F') (hr : r.stab = true) (ho : ∀ x ∈ outs, x = .dead ∨ x.stab = true) (hb : backs sl ps outs = some sl2) :
    ∃ F2, HRel P w' X sl2 cv r c F2 ∧ To w F w' F2 := by
  have hand := fun {i b : Nat} (h : calleeF n ps G i b) => calleeF_hand hlc hlg hok h
  have hdis : distinct (ps.filterMap fun a => a.hand.map (·.s)) = true := by simp only [apartB, Bool.and_eq_true] at hap; exact hap.1
  have B := backs_get hb hdis
  have hlen := R.len
  obtain ⟨R1, _⟩ := R.giveX .dead undef (fun _ => False) (Turns.refl _ _) (fun _ h => h.elim) fun Zs Zx _ _ => .dead none _ _ fun _ => id
  let Hd : Nat → Nat → Prop := fun k i => ∃ pa p, ps[k]? = some pa ∧ pa.hand = some p ∧ p.s = i
  let F2 : Nat → Nat → Prop := fun i b => (i = sl.length ∧ F' 0 b) ∨ (i < sl.length ∧ F i b ∧ ∀ k, Hd k i → ¬ G k b) ∨ (i < sl.length ∧ ∃ k y vw q lk, ps[k]? = some ⟨.io y vw, some q, lk⟩ ∧ q.s = i ∧ F' (k + 1) b)
  have ok : ∀ {k : Nat} {pa : Pass}, ps[k]? = some pa → ∃ c g, gs[k]? = some g ∧ PassOk P w X F sl cv pa c g (G k) := by
    intro k pa hk
    have hlt := (List.getElem?_eq_some_iff.1 hk).1
    exact ⟨_, _, List.getElem?_eq_getElem (by omega), hok k pa _ _ hk (List.getElem?_eq_getElem (by omega)) (List.getElem?_eq_getElem (by omega))⟩
  have hsl : ∀ {k : Nat} {pa : Pass} {p : Pl}, ps[k]? = some pa → pa.hand = some p → p.s < sl.length := by
    intro k pa p hk hp
    obtain ⟨c0, g, _, h⟩ := ok hk
    obtain ⟨arg, hd, lk⟩ := pa
    simp only at hp
    subst hp
    have at_lt : ∀ {y : T}, slAt sl p = some y → p.s < sl.length := by
      intro y hy
      simp only [slAt] at hy
      cases hs : sl[p.s]? with
      | none => simp [hs] at hy
      | some s => exact (List.getElem?_eq_some_iff.1 hs).1
    cases arg with
    | v v => exact h.elim
    | mv y => cases lk with
      | none => exact at_lt h.2.1
      | some s => exact h.elim
    | io y vw => cases lk with
      | none => exact at_lt h.1
      | some s => exact h.elim
  have hFc : ∀ {i b : Nat}, F' i b → (∃ k p, Hd k p.s ∧ (∃ pa, ps[k]? = some pa ∧ pa.hand = some p) ∧ F p.s b ∧ G k b) ∨ w.heap.size ≤ b := by
    intro i b h
    refine (t'.own i b h).imp (fun ⟨j, hj⟩ => ?_) id
    obtain ⟨k, pa, p, h1, h2, h3, h4, _⟩ := hand hj
    exact ⟨k, p, ⟨pa, p, h1, h2, rfl⟩, ⟨pa, h1, h2⟩, h3, h4⟩
  have hto : To w F w' F2 := ⟨fun i b hb => by
    rcases hb with ⟨_, h⟩ | ⟨_, h, _⟩ | ⟨_, k, y, vw, q, lk, _, _, h⟩
    · exact (hFc h).imp (fun ⟨k, p, _, _, h, _⟩ => ⟨_, h⟩) id
    · exact .inl ⟨_, h⟩
    · exact (hFc h).imp (fun ⟨k, p, _, _, h, _⟩ => ⟨_, h⟩) id, t'.turns.mono fun b ⟨j, hj⟩ => let ⟨k, pa, p, _, _, h3, _⟩ := hand hj; ⟨_, h3⟩⟩
  -- the callee's blocks that stay, stay here too
  have hzs : ∀ b, zs w' (calleeX X F (calleeF n ps G)) F' b → zs w' X F2 b := by
    intro b hb
    refine ⟨⟨hb.1.1, fun i hi => ?_⟩, fun hx => hb.2 (.inl hx)⟩
    rcases hi with ⟨_, h⟩ | ⟨_, h, hno⟩ | ⟨_, k, y, vw, q, lk, _, _, h⟩
    · exact hb.1.2 _ h
    · refine hb.2 (.inr ⟨i, h, fun j hj => ?_⟩)
      obtain ⟨k, pa, p, h1, h2, h3, h4, _⟩ := hand hj
      exact hno k ⟨pa, p, h1, h2, R.disj _ _ b h3 h⟩ h4
    · exact hb.1.2 _ h
  have hzs2 : ∀ b, zs w' (calleeX X F (calleeF n ps G)) F' b → zx w' F2 b := fun b hb => zs_zx b (hzs b hb)
  have hzsX : ∀ b, zs w X F b → zs w' X F2 b := hto.zs
  have hzxX : ∀ b, zx w F b → zx w' F2 b := hto.zx
  have hsame : ∀ {k : Nat} {pa : Pass} {p : Pl}, ps[k]? = some pa → pa.hand = some p → ∀ b, (F p.s b ∧ ¬ G k b) ∨ zx w F b → w'.heap[b]? = w.heap[b]? := by
    intro k pa p hk hp b hb
    have hblt : b < w.heap.size := hb.elim (fun h => R.lt _ b h.1) (·.1)
    refine t'.turns.block b hblt fun ⟨j, hj⟩ => ?_
    obtain ⟨k', pa', p', h1, h2, h3, h4, _⟩ := hand hj
    rcases hb with ⟨g1, g2⟩ | hb
    · have hss := R.disj _ _ b h3 g1
      have := distinct_hand hdis h1 hk h2 hp hss
      subst this
      exact g2 h4
    · exact hb.2 _ h3
  -- what came back into a place
  have io : ∀ {k : Nat} {y : T} {vw : Vw} {p : Pl} {lk : Option Nat}, ps[k]? = some ⟨.io y vw, some p, lk⟩ → ∃ x z c0, outs[k]? = some x ∧ sl[p.s]? = some (.t z) ∧ cv[p.s]? = some c0 ∧ z.at p.path = some y ∧ y.like x ∧ sl2[p.s]? = some (.t (T.put x p.path z)) ∧
      TRep P w' (zs w' X F2) (zx w' F2) none (T.put x p.path z) c0 (F2 p.s) ∧ ∀ q r, p.path = q ++ r → cAt w' c0 q = cAt w c0 q := by
    intro k y vw p lk hk
    have hkl := (List.getElem?_eq_some_iff.1 hk).1
    obtain ⟨x, hx⟩ : ∃ x, outs[k]? = some x := ⟨_, List.getElem?_eq_getElem (show k < outs.length by rw [B.lo]; exact hkl)⟩
    obtain ⟨z, y0, g1, g2, g3, g4⟩ := B.io k y vw p lk _ hk hx
    have hps : p.s < sl.length := hsl hk rfl
    have hc0 : cv[p.s]? = some cv[p.s] := List.getElem?_eq_getElem (by omega)
    obtain ⟨cc, g, hg, hp⟩ := ok hk
    cases lk with
    | some s => exact hp.elim
    | none =>
      obtain ⟨e1, e2, e3, ⟨me, e4, hclose⟩, e5, _⟩ := hp
      have hyy : y0 = y := by
        simp only [slAt, g1] at e1
        rw [g2] at e1; exact Option.some.inj e1
      subst hyy
      have hxs : x ≠ .self := by intro he; rw [he] at g3; cases y0 <;> simp [T.likeB] at g3
      have hstab : x.stab = true := by
        rcases ho x (List.mem_of_getElem? hx) with h | h
        · rw [h] at g3; cases y0 <;> simp [T.likeB] at g3
        · exact h
      have hout : TRep P w' (zs w' X F2) (zx w' F2) none x g (F' (k + 1)) := by
        have h0 := R'.slot (k + 1) (.t x) g (by simp [hx]) (by simpa using hg)
        have h0' : TRep P w' (zs w' (calleeX X F (calleeF n ps G)) F') (zx w' F') none x g (F' (k + 1)) := h0
        exact (h0'.stay (fun _ h => h) hstab).mono (fun _ h => h) hzs hzs2 fun _ _ => rfl
      have hF'sub : ∀ b, F' (k + 1) b → G k b ∨ ¬ F p.s b := by
        intro b hb
        rcases hFc hb with ⟨k', p', _, ⟨pa', h1, h2⟩, h3, h4⟩ | h
        · by_cases hs : p'.s = p.s
          · have := distinct_hand hdis h1 hk h2 rfl hs
            subst this; exact .inl h4
          · exact .inr fun hF => hs (R.disj _ _ b h3 hF)
        · exact .inr fun hF => by have := R.lt _ b hF; omega
      obtain ⟨h1, h2⟩ := hclose z _ g1 hc0 w' (zs w' X F2) (zx w' F2) x (F' (k + 1)) hzsX hzxX (hsame hk rfl) (hout.anyMe hxs) hF'sub (by
        intro v hv; rw [hv] at g3; cases y0 <;> simp [T.likeB] at g3)
      refine ⟨_, z, _, hx, g1, hc0, g2, likeB_like g3, g4, h1.iff fun b => ?_, h2⟩
      constructor
      · rintro (⟨h3, h4⟩ | h3)
        · refine .inr (.inl ⟨hps, h3, fun k' ⟨pa', p', f1, f2, f3⟩ => ?_⟩)
          have := distinct_hand hdis f1 hk f2 rfl f3
          subst this; exact h4
        · exact .inr (.inr ⟨hps, k, y0, vw, p, none, hk, rfl, h3⟩)
      · rintro (⟨h3, _⟩ | ⟨_, h3, h4⟩ | ⟨_, k', y', vw', q, lk', f1, f2, f3⟩)
        · omega
        · exact .inl ⟨h3, h4 k ⟨_, p, hk, rfl, rfl⟩⟩
        · have := distinct_hand hdis f1 hk rfl rfl f2
          subst this; exact .inr f3
  have hl2 : (sl2 ++ [S.t r]).length = (sl ++ [S.t .dead]).length := by simp [B.ls]
  refine ⟨F2, ⟨?_, ?_⟩, hto⟩
  · refine R1.upd (fun i => i = sl.length ∨ ∃ k, Hd k i) (fun q => keepAll ps q && q.s != sl.length) hl2 (by simp) ?_ ?_ ?_ (t'.turns.mono ?_) ?_ ?_ ?_ ?_ ?_
    · intro i hi
      have h1 : i ≠ sl.length := fun h => hi (.inl h)
      by_cases hil : i < sl.length
      · rw [List.getElem?_append_left (by rw [B.ls]; exact hil), List.getElem?_append_left hil, B.rest i fun k pa p f1 f2 f3 => hi (.inr ⟨k, pa, p, f1, f2, f3⟩)]
        cases hs : sl[i]? with
        | none => rfl
        | some s0 => simp only [Option.map_some]; rw [killBy_ne (R.okB i s0 hs)]
      · rw [List.getElem?_eq_none (by simp [B.ls]; omega), List.getElem?_eq_none (by simp; omega)]; rfl
    · intro i hi
      have h1 : i ≠ sl.length := fun h => hi (.inl h)
      by_cases hil : i < sl.length
      · rw [List.getElem?_append_left (by omega), List.getElem?_append_left (by omega)]
      · rw [List.getElem?_eq_none (by simp; omega), List.getElem?_eq_none (by simp; omega)]
    · intro i hi b
      have h1 : i ≠ sl.length := fun h => hi (.inl h)
      constructor
      · rintro (⟨h, _⟩ | ⟨h2, h3, _⟩ | ⟨_, k, y, vw, q, lk, f1, f2, _⟩)
        · exact absurd h h1
        · exact .inl ⟨h2, h3⟩
        · exact absurd (.inr ⟨k, _, q, f1, rfl, f2⟩) hi
      · rintro (⟨h2, h3⟩ | ⟨h2, _⟩)
        · exact .inr (.inl ⟨h2, h3, fun k hk => absurd (.inr ⟨k, hk⟩) hi⟩)
        · exact absurd h2 h1
    · rintro b ⟨j, hj⟩
      obtain ⟨k, pa, p, h1, h2, h3, h4, _⟩ := hand hj
      exact ⟨p.s, .inr ⟨k, pa, p, h1, h2, rfl⟩, .inl ⟨hsl h1 h2, h3⟩⟩
    · intro d hd b hb
      have old : ∀ {i : Nat}, F' i b → (∃ e, (e = sl.length ∨ ∃ k, Hd k e) ∧ ((e < sl.length ∧ F e b) ∨ (e = sl.length ∧ False))) ∨ w.heap.size ≤ b := fun h =>
        (hFc h).imp (fun ⟨k, p, h1, ⟨pa, h2, h2'⟩, h3, _⟩ => ⟨p.s, .inr ⟨k, h1⟩, .inl ⟨hsl h2 h2', h3⟩⟩) id
      rcases hb with ⟨_, h⟩ | ⟨h2, h3, _⟩ | ⟨_, k, y, vw, q, lk, f1, f2, f3⟩
      · exact old h
      · exact .inl ⟨d, hd, .inl ⟨h2, h3⟩⟩
      · exact old f3
    · intro d hd b hb
      rcases hb with ⟨_, h⟩ | ⟨h2, h3, _⟩ | ⟨_, k, y, vw, q, lk, f1, f2, f3⟩
      · exact R'.lt _ b h
      · exact Nat.lt_of_lt_of_le (R.lt _ b h3) t'.turns.size
      · exact R'.lt _ b f3
    · intro d e b hd he h1 h2
      have mix : ∀ {i e : Nat}, F' i b → F e b → (∀ k, Hd k e → ¬ G k b) → False := by
        intro i e h1 h2 h3
        rcases hFc h1 with ⟨k, p, g1, _, g3, g4⟩ | h
        · have := R.disj _ _ b g3 h2
          exact h3 k (this ▸ g1) g4
        · have := R.lt _ b h2; omega
      rcases h1 with ⟨e1, h1⟩ | ⟨_, h1, h1'⟩ | ⟨_, k, y, vw, q, lk, f1, f2, f3⟩ <;> rcases h2 with ⟨e2, h2⟩ | ⟨_, h2, h2'⟩ | ⟨_, k', y', vw', q', lk', f1', f2', f3'⟩
      · rw [e1, e2]
      · exact (mix h1 h2 h2').elim
      · have := R'.disj _ _ b h1 f3'; omega
      · exact (mix h2 h1 h1').elim
      · exact R.disj _ _ b h1 h2
      · exact (mix f3' h1 h1').elim
      · have := R'.disj _ _ b f3 h2; omega
      · exact (mix f3 h2 h2').elim
      · have := R'.disj _ _ b f3 f3'
        have hkk : k = k' := by omega
        subst hkk
        rw [f1] at f1'; cases f1'
        rw [← f2, ← f2']
    · rintro q z cz hq hk hz hcz hnp
      simp only [Bool.and_eq_true, bne_iff_ne, ne_eq] at hk
      rcases hq with hq | ⟨k, pa, p, h1, h2, h3⟩
      · exact absurd hq hk.2
      have hps := hsl h1 h2
      have hkeep : ∀ pa ∈ ps, (match pa with | ⟨.io _ _, some p, _⟩ => p.keep true q | ⟨.mv _, some p, _⟩ => p.keep false q | _ => true) = true := List.all_eq_true.1 hk.1
      have hkp := hkeep pa (List.mem_of_getElem? h1)
      obtain ⟨cc, g, hg, hp⟩ := ok h1
      obtain ⟨arg, hd, lk⟩ := pa
      simp only at h2
      subst h2
      cases arg with
      | v v => exact hp.elim
      | mv y =>
        cases lk with
        | some s => exact hp.elim
        | none =>
          have hpath : p = ⟨q.s, []⟩ := by rw [← h3]; cases p; simp only [PassOk] at hp; rw [hp.1]
          simp only at hkp
          rw [hpath, keep_self q.s q rfl] at hkp
          cases hkp
      | io y vw =>
        obtain ⟨x, z0, c0, g1, g2, g3, g4, g5, g6, g7, g8⟩ := io h1
        simp only at hkp
        obtain ⟨rr, hrr, _⟩ := keep_prefix h3.symm hkp
        have hzq : z0.at q.path = some z := by
          simp only [slAt] at hz
          rw [← h3, List.getElem?_append_left hps, g2] at hz
          exact hz
        have hczq : cAt w c0 q.path = some cz := by
          simp only [cvAt] at hcz
          rw [← h3, List.getElem?_append_left (by omega), g3] at hcz
          exact hcz
        refine ⟨T.put x rr z, ?_, ?_, ?_⟩
        · simp only [slAt]
          rw [← h3, List.getElem?_append_left (by rw [B.ls]; exact hps), g6]
          show (T.put x p.path z0).at q.path = _
          rw [hrr]
          exact put_at_prefix x q.path rr z0 z hzq
        · cases rr with
          | nil =>
            have : z = y := by
              simp only [List.append_nil] at hrr
              rw [hrr, hzq] at g4
              exact Option.some.inj g4
            subst this
            exact g5
          | cons j rr => exact put_like (at_rest hzq (by rw [← hrr]; exact g4))
        · simp only [cvAt]
          rw [← h3, List.getElem?_append_left (by omega), g3]
          show cAt w' c0 q.path = _
          rw [g8 q.path rr hrr]; exact hczq
    · rintro d s c' hd h1 h2
      by_cases hdn : d = sl.length
      · subst hdn
        rw [List.getElem?_append_right (by rw [B.ls]; exact Nat.le_refl _)] at h1
        simp [B.ls] at h1
        subst h1
        rw [List.getElem?_append_right (by omega)] at h2
        simp [hlen] at h2
        subst h2
        have h0 : TRep P w' (zs w' (calleeX X F (calleeF n ps G)) F') (zx w' F') none r c (F' 0) := R'.slot 0 (.t r) c rfl rfl
        have h3 := (h0.stay (fun _ h => h) hr).mono (fun _ h => h) hzs hzs2 fun _ _ => rfl
        refine TRep.iff h3 fun b => ⟨fun h => .inl ⟨rfl, h⟩, fun h => ?_⟩
        rcases h with ⟨_, h⟩ | ⟨h, _⟩ | ⟨h, _⟩
        · exact h
        · omega
        · omega
      · obtain ⟨k, pa, p, f1, f2, f3⟩ := hd.resolve_left hdn
        subst f3
        have hps := hsl f1 f2
        rw [List.getElem?_append_left (by rw [B.ls]; exact hps)] at h1
        rw [List.getElem?_append_left (by omega)] at h2
        obtain ⟨cc, g, hg, hp⟩ := ok f1
        obtain ⟨arg, hd', lk⟩ := pa
        simp only at f2
        subst f2
        cases arg with
        | v v => exact hp.elim
        | mv y =>
          cases lk with
          | some s => exact hp.elim
          | none =>
            obtain ⟨z, hz⟩ := B.mv k y p none f1
            rw [hz] at h1; cases h1
            rw [hp.1]
            refine .dead none c' _ fun b hb => ?_
            rcases hb with ⟨h, _⟩ | ⟨_, h3, h4⟩ | ⟨_, k', y', vw, q, lk, e1, e2, _⟩
            · exact hdn h
            · exact h4 k ⟨_, p, f1, rfl, rfl⟩ ((hp.2.2.2.2 b).2 h3)
            · have := distinct_hand hdis e1 f1 rfl rfl e2
              subst this
              rw [f1] at e1; cases e1
        | io y vw =>
          obtain ⟨x, z0, c0, g1, g2, g3, g4, g5, g6, g7, g8⟩ := io f1
          rw [g6] at h1; cases h1
          rw [g3] at h2; cases h2
          exact g7
  · intro i s hi
    rw [B.ls]
    by_cases hd : ∃ k, Hd k i
    · obtain ⟨k, pa, p, f1, f2, f3⟩ := hd
      subst f3
      obtain ⟨cc, g, hg, hp⟩ := ok f1
      obtain ⟨arg, hd', lk⟩ := pa
      simp only at f2
      subst f2
      cases arg with
      | v v => exact hp.elim
      | mv y => obtain ⟨z, hz⟩ := B.mv k y p lk f1; rw [hz] at hi; cases hi; rfl
      | io y vw => obtain ⟨x, z0, c0, g1, g2, g3, g4, g5, g6, _⟩ := io f1; rw [g6] at hi; cases hi; rfl
    · rw [B.rest i fun k pa p f1 f2 f3 => hd ⟨k, pa, p, f1, f2, f3⟩] at hi
      cases hs : sl[i]? with
      | none => simp [hs] at hi
      | some s0 => simp [hs] at hi; subst hi; exact okB_kill (R.okB i s0 hs)
end
end Go.Proofs.Ytffofdfikmpanaa.A
namespace Go.Proofs.Ytffofdfikmpanaa.A
set_option linter.unusedVariables false
set_option linter.unusedSimpArgs false
def KSound (P : Program) (K : Oracle) : Prop := ∀ (f : FuncId) (args : List Arg) (r : T) (outs : List T) (n : Nat), K f args = some (r, outs) → slotsOf P f = some n → args.length ≤ n →
  r.stab = true ∧ (∀ x ∈ outs, x = .dead ∨ x.stab = true) ∧
  ∀ (w : World) (X : Nat → Prop) (vals gs : List Value) (F : Nat → Nat → Prop), vals.length = args.length → gs.length = args.length →
    Rel P w X (frame n args) (vals ++ List.replicate (n - args.length) undef ++ gs) F →
    Calls P f vals.toArray w fun e w' => ∃ c F', e = .returned c ∧ Rel P w' X (.t r :: outs.map .t) (c :: gs) F' ∧ To w F w' F'
def HSound (P : Program) (H : Hints) : Prop := ∀ f, H.same f = true → (H.nat f = 0 → ∀ (x : Value) (w : World), (callFunc f #[x]).run P w = .ok (.value x) w) ∧
  (∀ x y z a b : Int, carryV (H.nat f) (.int .u64 x) (.int .u64 y) (.int .u64 z) = some (.tup [.p (.int .u64 a), .p (.int .u64 b)]) →
    ∀ w : World, (callFunc f #[.int .u64 x, .int .u64 y, .int .u64 z]).run P w = .ok (.value (.tuple #[.int .u64 a, .int .u64 b])) w)
theorem noNative {P : Program} {H : Hints} (h : ∀ f, H.same f = false) : HSound P H := fun f hf => by rw [h f] at hf; cases hf
theorem carryV_inv {n : Nat} {u v c : V} {r : T} (h : carryV n u v c = some r) : ∃ x y z a b : Int, u = .int .u64 x ∧ v = .int .u64 y ∧ c = .int .u64 z ∧ r = .tup [.p (.int .u64 a), .p (.int .u64 b)] := by
  unfold carryV at h
  split at h
  · rename_i x y z
    split at h
    · split at h
      · cases h; exact ⟨x, y, z, _, _, rfl, rfl, rfl, rfl⟩
      · cases h
    · split at h
      · split at h
        · cases h; exact ⟨x, y, z, _, _, rfl, rfl, rfl, rfl⟩
        · cases h
      · cases h
  · cases h
section
variable {P : Program} {X : Nat → Prop} {w : World} {sl : List S} {F : Nat → Nat → Prop} {a : Act} {gv : List Value}
theorem loadCell_pure {p : Pl} {j : Nat} {y : T} {x : T} (h : loadCell p j y = some (.t x)) : ∃ v, x = .p v := by
  unfold loadCell at h
  repeat' split at h
  all_goals first | (cases h; done) | (cases h; exact ⟨_, rfl⟩)
theorem load_pure {t : TypeId} {s : S} {x : T} (h : load P t sl s = some (.t x)) : ∃ v, x = .p v := by
  unfold load at h
  repeat' split at h
  all_goals first | (cases h; done) | (cases h; exact ⟨_, rfl⟩) | exact loadCell_pure h
theorem conv_pure {s d : TypeId} {y : S} {x : T} (h : conv P s d sl y = some (.t x)) : ∃ v, x = .p v := by
  unfold conv at h
  repeat' split at h
  all_goals first | (cases h; done) | (cases h; exact ⟨_, rfl⟩)
theorem fieldAddr_pure {t : TypeId} {f : Nat} {y : S} {x : T} (h : fieldAddr P t sl y f = some (.t x)) : ∃ v, x = .p v := by
  unfold fieldAddr at h
  repeat' split at h
  all_goals first | (cases h; done) | (cases h; exact ⟨_, rfl⟩)
theorem indexAddr_pure {t : TypeId} {i : Int} {y : S} {x : T} (h : indexAddr P t sl y i = some (.t x)) : ∃ v, x = .p v := by
  unfold indexAddr at h
  repeat' split at h
  all_goals first | (cases h; done) | (cases h; exact ⟨_, rfl⟩)
theorem sliceOp_pure {t : TypeId} {lo hi mx : Option Operand} {y : S} {x : T} (h : sliceOp P t sl y lo hi mx = some (.t x)) : ∃ v, x = .p v := by
  unfold sliceOp at h
  repeat' split at h
  all_goals first | (cases h; done) | (cases h; exact ⟨_, rfl⟩)
theorem arrayAt_pure {t : TypeId} {y : S} {x : T} (h : arrayAt P t y = some (.t x)) : ∃ v, x = .p v := by
  unfold arrayAt at h
  repeat' split at h
  all_goals first | (cases h; done) | (cases h; exact ⟨_, rfl⟩)
theorem lookA_pure {op : Op} {x : T} (h : lookA P sl op = some (.t x)) : ∃ v, x = .p v := by
  unfold lookA at h
  repeat' split at h
  all_goals first
    | (cases h; done)
    | (cases h; exact ⟨_, rfl⟩)
    | exact load_pure h
    | exact conv_pure h
    | exact fieldAddr_pure h
    | exact indexAddr_pure h
    | exact sliceOp_pure h
    | exact arrayAt_pure h
    | (rename_i hn1 hn2; cases x <;> first | exact ⟨_, rfl⟩ | exact absurd h (hn2 _))
def RunsC (P : Program) (w : World) (X : Nat → Prop) (F : Nat → Nat → Prop) (cv : List Value) (sl' : List S) (dst : Option Nat) (m : Sem Next) : Prop :=
  (∃ c F', m.run P w = .ok (.value c) w ∧ Rel P w X sl' (setv cv dst c) F' ∧ To w F w F') ∨
  (∃ f vals, m.run P w = .ok (.enter f vals) w ∧ Calls P f vals w fun e w' => ∃ c F', e = .returned c ∧ Rel P w' X sl' (setv cv dst c) F' ∧ To w F w' F')
theorem callFunc_run {f : FuncId} {n : Nat} (h : slotsOf P f = some n) (vals : Array Value) : (callFunc f vals).run P w = .ok (.enter f vals) w := by
  unfold slotsOf at h
  split at h
  · rename_i fn hf
    split at h
    · rename_i hh
      simp only [Bool.and_eq_true, bne_iff_ne, ne_eq] at hh
      obtain ⟨c, hb⟩ := Option.isSome_iff_exists.1 hh.1
      cases h
      simp [callFunc, hf, hh.2, hb]
    · cases h
  · cases h
theorem callPs_run {K : Oracle} (hK : KSound P K) {cv : List Value} (R : Rel P w X sl cv F) {f : FuncId} {ps : List Pass} {cs gs : List Value} {G : Nat → Nat → Prop} (hlc : cs.length = ps.length) (hlg : gs.length = ps.length)
    (hok : ∀ (i : Nat) (pa : Pass) (c g : Value), ps[i]? = some pa → cs[i]? = some c → gs[i]? = some g → PassOk P w X F sl cv pa c g (G i)) {dst : Option Nat} {sl' : List S} (h : callPs P K sl f ps dst = some sl') :
    (callFunc f cs.toArray).run P w = .ok (.enter f cs.toArray) w ∧ Calls P f cs.toArray w fun e w' => ∃ c F', e = .returned c ∧ Rel P w' X sl' (setv cv dst c) F' ∧ To w F w' F' := by
  unfold callPs at h
  split at h
  · rename_i hh
    simp only [Bool.and_eq_true] at hh
    obtain ⟨hap, hsl⟩ := hh
    unfold fitsB at hsl
    split at hsl
    · rename_i n hn
      have hle : ps.length ≤ n := by simpa using hsl
      split at h
      · rename_i r outs hk
        split at h
        · rename_i sl2 hb
          obtain ⟨hr, ho, hcall⟩ := hK f _ r outs n hk hn (by simpa using hle)
          refine ⟨callFunc_run hn _, ?_⟩
          have R1 := callee_rel R hlc hlg hok hap hle
          refine (hcall w (calleeX X F (calleeF n ps G)) cs gs (calleeF n ps G) (by simpa using hlc) (by simpa using hlg) (by simpa using R1)).mono fun e w' he => ?_
          obtain ⟨c, F', rfl, R2, t2⟩ := he
          obtain ⟨F3, R3, t3⟩ := call_back R hlc hlg hok hap hle R2 t2 hr ho hb
          obtain ⟨F4, R4, t4⟩ := R3.putD h
          exact ⟨c, F4, rfl, R4, t3.trans t4⟩
        · cases h
      · cases h
    · cases hsl
  · cases h
theorem callOp_run {K : Oracle} {H : Hints} (hK : KSound P K) (hH : HSound P H) (R : Sit P w X sl F a gv) {f : FuncId} {args : List Operand} {more : List V} {mvals : List Value} (hx : ∀ x ∈ args, OkT a x) (hml : mvals.length = more.length)
    (hm : ∀ (i : Nat) (v : V) (c : Value), more[i]? = some v → mvals[i]? = some c → PRep w (zs w X F) (zx w F) v c) {dst : Option Nat} {sl' : List S} (h : callOp P K H sl f args more dst = some sl') :
    RunsC P w X F (a.tmps.toList ++ gv) sl' dst (callFunc f (args.map a.eval ++ mvals).toArray) := by
  unfold callOp at h
  split at h
  · rename_i hs
    simp only [Bool.and_eq_true, List.isEmpty_iff] at hs
    obtain ⟨hs, rfl⟩ := hs
    have : mvals = [] := List.eq_nil_of_length_eq_zero (by simpa using hml)
    subst this
    split at h
    · rename_i x
      have hxx : OkT a x := hx x (by simp)
      split at h
      · rename_i hn0
        have hrun := (hH f hs).1 hn0 (a.eval x) w
        split at h
        · rename_i v hr
          obtain ⟨F1, R1, t1⟩ := give_pure R.rel (rd_val R hxx hr) h
          exact .inl ⟨_, F1, by simpa using hrun, R1, t1⟩
        · rename_i p i j hr
          obtain ⟨F1, R1, t1⟩ := R.rel.layVal (rd_val R hxx hr) h (by simp)
          exact .inl ⟨_, F1, by simpa using hrun, R1, t1⟩
        · cases h
      · cases h
    · rename_i x y z
      have hval : ∀ {o : Operand} {v : V}, OkT a o → rd sl o = some (.t (.p v)) → PRep w (zs w X F) (zx w F) v (a.eval o) := fun {o v} ho hr => by
        have hv : Val P w X F sl (a.tmps.toList ++ gv) (.t (.p v)) (a.eval o) := rd_val R ho hr
        exact hv
      split at h
      · rename_i u hu
        split at h
        · rename_i v hv
          split at h
          · rename_i c hc
            split at h
            · rename_i r hr
              obtain ⟨i, j, l, p, q, rfl, rfl, rfl, rfl⟩ := carryV_inv hr
              have e1 := hval (hx x (by simp)) hu
              have e2 := hval (hx y (by simp)) hv
              have e3 := hval (hx z (by simp)) hc
              have k1 : a.eval x = .int .u64 i := by generalize a.eval x = c at e1; cases e1; rfl
              have k2 : a.eval y = .int .u64 j := by generalize a.eval y = c at e2; cases e2; rfl
              have k3 : a.eval z = .int .u64 l := by generalize a.eval z = c at e3; cases e3; rfl
              have hrun := (hH f hs).2 i j l p q hr w
              obtain ⟨F1, R1, t1⟩ := R.rel.give' (.tup [.p (.int .u64 p), .p (.int .u64 q)]) (.tuple [.int .u64 p, .int .u64 q].toArray) (fun _ => False) (Turns.refl _ _) (fun _ h => h.elim)
                fun Zs Zx _ _ => .tup none _ _ _ (fun _ _ => False) rfl (fun m t c h1 h2 => by
                  match m with
                  | 0 => cases h1; cases h2; exact .p none _ _ _ (.int _ _) fun _ h => h
                  | 1 => cases h1; cases h2; exact .p none _ _ _ (.int _ _) fun _ h => h
                  | m + 2 => simp at h1) (by simp) (by simp)
              obtain ⟨F2, R2, t2⟩ := R1.putD h
              exact .inl ⟨_, F2, by simpa [k1, k2, k3] using hrun, R2, t1.trans t2⟩
            · cases h
          · cases h
        · cases h
      · cases h
    · cases h
  · split at h
    · rename_i sl1 h1
      split at h
      · rename_i l h2
        obtain ⟨F1, R1, t1⟩ := prepA_run R hx h1
        obtain ⟨hll, gs, G, hlg, hok⟩ := readAll_run (k := 0) ⟨R1⟩ hx h2
        obtain ⟨g1, g2⟩ := callPs_run hK R1 (ps := l ++ more.map fun v => ⟨.v v, none, none⟩) (cs := args.map a.eval ++ mvals) (gs := gs ++ List.replicate more.length undef) (G := fun i b => i < l.length ∧ G i b) (by simp [hll, hml]) (by simp [hll, hlg])
          (fun i pa c g e1 e2 e3 => by
            by_cases hi : i < l.length
            · rw [List.getElem?_append_left hi] at e1
              rw [List.getElem?_append_left (by simp; omega)] at e2
              rw [List.getElem?_append_left (by omega)] at e3
              have : (fun b => i < l.length ∧ G i b) = G i := by funext b; simp [hi]
              rw [this]
              exact hok i pa c g e1 e2 e3
            · rw [List.getElem?_append_right (by omega), List.getElem?_map, Option.map_eq_some_iff] at e1
              obtain ⟨v, hv, rfl⟩ := e1
              rw [List.getElem?_append_right (by simp; omega)] at e2
              exact ⟨t1.prep (hm _ v c hv (by rw [← e2]; congr 1; simp; omega)), fun b hb => hi hb.1⟩) h
        refine .inr ⟨f, _, g1, g2.mono fun e w' he => ?_⟩
        obtain ⟨c, F', rfl, R2, t2⟩ := he
        exact ⟨c, F', rfl, R2, t1.trans t2⟩
      · cases h
    · cases h
theorem callMethod_run {u : TypeId} {name : String} {f : FuncId} (h : methB P u name = some f) (ad : Addr) (vals : Array Value) : (callMethod (.iface u (.pointer (some ad))) name vals).run P w = (callFunc f (#[.pointer (some ad)] ++ vals)).run P w := by
  unfold methB at h
  split at h
  · rename_i ti hti
    split at h
    · rename_i m hm
      split at h
      · rename_i f' e hpath hf hu
        cases h
        have hp : m.path = #[] := Array.toList_eq_nil_iff.1 hpath
        have hty : (typeInfo u).run P w = .ok ti w := by simp [typeInfo, hti]
        have hu' : (underlying u).run P w = .ok (.pointer e) w := Go.run_underlying hu w
        have : ∀ n, (Go.method (n + 1) u (.pointer (some ad)) name).run P w = .ok (f, .pointer (some ad)) w := by
          intro n
          simp only [Go.method, Sem.run_bind, hty, Result.andThen_ok, hm, hp, hf]
          simp [Go.follow, Go.receiverAt, Place.get, Sem.run_bind, hu', go_sem]
        have h2 : (Go.method (P.types.size + Made.depth) u (.pointer (some ad)) name).run P w = .ok (f, .pointer (some ad)) w := this (P.types.size + 99)
        simp only [callMethod, Sem.run_bind, run_program, Result.andThen_ok, h2]
      · cases h
    · cases h
  · cases h
theorem callM_run {K : Oracle} {H : Hints} (hK : KSound P K) (R : Sit P w X sl F a gv) {t : Nat} {name : String} {args : List Operand} (ht : OkT a (.tmp t)) (hx : ∀ x ∈ args, OkT a x) {dst : Option Nat} {sl' : List S} (h : callM P K H sl t name args dst = some sl') :
    RunsC P w X F (a.tmps.toList ++ gv) sl' dst (callMethod (a.eval (.tmp t)) name (args.map a.eval).toArray) := by
  unfold callM at h
  split at h
  · rename_i u p hs
    split at h
    · rename_i f hm
      split at h
      · rename_i sl1 h1
        split at h
        · rename_i u' p' ty cs l hs1 hz h2
          split at h
          · rename_i he
            obtain ⟨rfl, rfl⟩ := he
            obtain ⟨F1, R1, t1⟩ := prepA_run R hx h1
            obtain ⟨q, z, cz, hq, hz', hcz, hb⟩ := slot_val ⟨R1⟩ hs1 (eval_tmp (ht t rfl) gv)
            cases hq
            obtain ⟨x, b, rfl, rfl, hcv⟩ := hb
            have hz2 : slAt sl1 p'.down = some x := slAt_down hz'
            have hcz2 : cvAt w (a.tmps.toList ++ gv) p'.down = some (.pointer (some ⟨b, 0, none⟩)) := cvAt_down hcz
            rw [hz] at hz2; cases hz2
            obtain ⟨me, G0, hT, hsub, hcl⟩ := R1.nodeC hz hcz2
            obtain ⟨hll, gs, G, hlg, hok⟩ := readAll_run (k := 1) ⟨R1⟩ hx h2
            obtain ⟨g1, g2⟩ := callPs_run hK R1 (ps := ⟨.io (.opt ty cs) .pt, some p'.down, none⟩ :: l) (cs := .pointer (some ⟨b, 0, none⟩) :: args.map a.eval) (gs := .pointer (some ⟨b, 0, none⟩) :: gs) (G := fun i => match i with | 0 => G0 | i + 1 => G i) (by simp [hll]) (by simp [hll, hlg])
              (fun i pa c g e1 e2 e3 => by
                cases i with
                | zero =>
                  cases e1; cases e2; cases e3
                  exact ⟨hz, hcz2, by simp, ⟨me, hT, hcl⟩, hsub, .inr ⟨ty, cs, b, rfl, rfl, rfl, rfl⟩⟩
                | succ i => exact hok i pa c g (by simpa using e1) (by simpa using e2) (by simpa using e3)) h
            rw [hcv]
            have hrun := callMethod_run (w := w) hm ⟨b, 0, none⟩ (args.map a.eval).toArray
            have hl : (#[Value.pointer (some ⟨b, 0, none⟩)] ++ (args.map a.eval).toArray) = (Value.pointer (some ⟨b, 0, none⟩) :: args.map a.eval).toArray := by apply Array.ext'; simp
            rw [hl, g1] at hrun
            refine .inr ⟨f, _, hrun, g2.mono fun e w' he => ?_⟩
            obtain ⟨c, F', rfl, R2, t2⟩ := he
            exact ⟨c, F', rfl, R2, t1.trans t2⟩
          · cases h
        · cases h
      · cases h
    · cases h
  · cases h
theorem put_toList {dst : Option Nat} (h : ∀ d, dst = some d → d < a.tmps.size) (c : Value) : (a.put dst c).tmps.toList ++ gv = setv (a.tmps.toList ++ gv) dst c := by
  cases dst with
  | none => rfl
  | some d =>
    simp only [Act.put, setv, Array.toList_setIfInBounds]
    rw [List.set_append, if_pos (by simpa using h d rfl)]
theorem call_run {K : Oracle} {H : Hints} {me : FuncId} (hK : KSound P K) (hH : HSound P H) (R : Sit P w X sl F a gv) {o : Oper} (hops : ∀ x ∈ o.op.operands.toList, OkT a x) {sl' : List S} (h : eff P K H me sl o.dst o.op = some sl') (hc : isCall o.op = true) :
    RunsC P w X F (a.tmps.toList ++ gv) sl' o.dst (execOp a.eval o) := by
  obtain ⟨dst, op, type, pos, after, guard⟩ := o
  simp only at h hc hops ⊢
  cases op with
  | call c =>
    obtain ⟨callee, args, ts⟩ := c
    have hargs : ∀ x ∈ args.toList, OkT a x := fun x hx => hops x (by
      have hx' : x ∈ args := Array.mem_toList_iff.1 hx
      cases callee <;> simp [Op.operands, Call.operands, hx'])
    cases callee with
    | builtin b => simp [isCall] at hc
    | invoke r m =>
      cases r with
      | tmp t =>
        simp only [eff] at h
        have ht : OkT a (.tmp t) := hops (.tmp t) (by simp [Op.operands, Call.operands])
        have := callM_run hK R ht hargs h
        have he : execOp a.eval { dst := dst, op := .call { callee := .invoke (.tmp t) m, args := args, argTypes := ts }, type := type, pos := pos, after := after, guard := guard } = callMethod (a.eval (.tmp t)) m (args.toList.map a.eval).toArray := by
          have hl : (args.toList.map a.eval).toArray = args.map a.eval := by apply Array.ext'; simp
          rw [hl]
          have e0 : (#[a.eval (.tmp t)] ++ args.map a.eval)[0]? = some (a.eval (.tmp t)) := by rw [Array.getElem?_append_left (by simp)]; rfl
          have e1 : (#[a.eval (.tmp t)] ++ args.map a.eval).extract 1 (#[a.eval (.tmp t)] ++ args.map a.eval).size = args.map a.eval := by apply Array.ext'; simp; exact List.take_of_length_le (by simp)
          simp only [execOp, resolve, invoke, pure_bind, e0, e1]
        rw [he]; exact this
      | _ => simp only [eff] at h; cases h
    | value f =>
      cases f with
      | func f =>
        simp only [eff] at h
        have := callOp_run hK hH R hargs (mvals := []) rfl (by simp) h
        have he : execOp a.eval { dst := dst, op := .call { callee := .value (.func f), args := args, argTypes := ts }, type := type, pos := pos, after := after, guard := guard } = callFunc f (args.toList.map a.eval ++ []).toArray := by
          have hl : (args.toList.map a.eval ++ []).toArray = args.map a.eval := by apply Array.ext'; simp
          rw [hl]
          simp [execOp, resolve, Deferred.ofValue, Act.eval, invoke]
        rw [he]; exact this
      | tmp t =>
        simp only [eff] at h
        split at h
        · rename_i sn f caps hs
          have hxt : OkT a (.tmp t) := hops (.tmp t) (by simp [Op.operands, Call.operands])
          have hv : PRep w (zs w X F) (zx w F) (.fn sn f caps) (a.eval (.tmp t)) := slot_val R hs (eval_tmp (hxt t rfl) gv)
          generalize hcv : a.eval (.tmp t) = cv at hv
          cases hv with
          | fn sn f caps vs hl hcap =>
            have := callOp_run hK hH R hargs (mvals := vs) hl.symm (fun i v c h1 h2 => by
              have := hcap i v c h1 h2
              cases sn
              · exact this.mono (fun _ h => h) (fun _ h => h) zs_zx fun _ _ => rfl
              · exact this) h
            have he : execOp a.eval { dst := dst, op := .call { callee := .value (.tmp t), args := args, argTypes := ts }, type := type, pos := pos, after := after, guard := guard } = callFunc f (args.toList.map a.eval ++ vs).toArray := by
              have hl : (args.toList.map a.eval ++ vs).toArray = args.map a.eval ++ vs.toArray := by apply Array.ext'; simp
              rw [hl]
              simp [execOp, resolve, hcv, Deferred.ofValue, invoke]
            rw [he]; exact this
        · cases h
      | _ => simp only [eff] at h; cases h
  | _ => simp [isCall] at hc
theorem stepA_run {K : Oracle} {H : Hints} {me : FuncId} (hK : KSound P K) (hH : HSound P H) (R : Rel P w X sl (a.tmps.toList ++ gv) F) {o : Oper} (hok : opOk a.tmps.size o = true) {sl' : List S} (h : stepA P K H me sl o = some sl')
    {next : Act → World → Prop}
    (hn : ∀ (c : Value) (w' : World) (F' : Nat → Nat → Prop), Rel P w' X sl' (setv (a.tmps.toList ++ gv) o.dst c) F' → To w F w' F' → next (a.put o.dst c) w') :
    (∃ c w', (execOp a.eval o).run P w = .ok (.value c) w' ∧ next (a.put o.dst c) w') ∨ (∃ w', (execOp a.eval o).run P w = .ok .skip w' ∧ next (a.put o.dst undef) w') ∨
    (∃ f args w', (execOp a.eval o).run P w = .ok (.enter f args) w' ∧ Calls P f args w' fun e w'' => ∃ v, e = .returned v ∧ next (a.put o.dst v) w'') := by
  have R0 : Sit P w X sl F a gv := ⟨R⟩
  simp only [opOk, Bool.and_eq_true] at hok
  have hops : ∀ x ∈ o.op.operands.toList, OkT a x := fun x hx t ht => by
    have := Array.all_eq_true'.1 hok.2 x (Array.mem_toList_iff.1 hx)
    subst ht
    simpa using this
  unfold stepA at h
  split at h
  · rename_i y hn'
    -- nil as a list
    have hcase : execOp a.eval o = (pure (.value (.slice none 0 0)) : Sem Next) ∧ ∃ e, y = .own e [] := by
      obtain ⟨dst, op, type, pos, after, guard⟩ := o
      unfold nilOp at hn'
      simp only at hn'
      split at hn'
      · split at hn'
        · split at hn'
          · cases hn'; exact ⟨rfl, _, rfl⟩
          · cases hn'
        · cases hn'
      · split at hn'
        · split at hn'
          · cases hn'; exact ⟨rfl, _, rfl⟩
          · cases hn'
        · cases hn'
      · cases hn'
    obtain ⟨hex, e, rfl⟩ := hcase
    obtain ⟨F1, R1, t1⟩ := R.give' (.own e []) (.slice none 0 0) (fun _ => False) (Turns.refl _ _) (fun _ h => h.elim) fun _ _ _ _ => .own0 none e none _ (fun _ => id) fun _ => rfl
    obtain ⟨F2, R2, t2⟩ := R1.putD h
    rw [hex]
    exact .inl ⟨_, _, rfl, hn _ _ _ R2 (t1.trans t2)⟩
  split at h
  · rename_i s hl
    obtain ⟨c, hr, hv⟩ := look_run R0 hops hl
    obtain ⟨F', R', t'⟩ := R.layVal hv h (by
      intro x hx
      subst hx
      exact lookA_pure hl)
    exact .inl ⟨_, _, hr, hn _ _ _ R' t'⟩
  · cases hc : isCall o.op with
    | false =>
      obtain ⟨w', F', t', hh⟩ := eff_run R0 hops h hc
      rcases hh with ⟨c, hr, R'⟩ | ⟨hd, hr, R'⟩
      · exact .inl ⟨_, _, hr, hn _ _ _ R' t'⟩
      · exact .inr (.inl ⟨_, hr, hn undef _ _ (by rw [hd]; exact R') t'⟩)
    | true =>
      rcases call_run hK hH R0 hops h hc with ⟨c, F', hr, R', t'⟩ | ⟨f, vals, hr, hcall⟩
      · exact .inl ⟨_, _, hr, hn _ _ _ R' t'⟩
      · refine .inr (.inr ⟨_, _, _, hr, hcall.mono fun e w' he => ?_⟩)
        obtain ⟨c, F', rfl, R', t'⟩ := he
        exact ⟨c, rfl, hn _ _ _ R' t'⟩
theorem stepA_nodefer {K : Oracle} {H : Hints} {me : FuncId} {o : Oper} {sl' : List S} (h : stepA P K H me sl o = some sl') : ∀ c, o.op ≠ .defer c := by
  intro c hc
  obtain ⟨dst, op, type, pos, after, guard⟩ := o
  simp only at hc
  subst hc
  simp [stepA, nilOp, lookA, eff] at h
end
end Go.Proofs.Ytffofdfikmpanaa.A
namespace Go.Proofs.Ytffofdfikmpanaa.A
set_option linter.unusedVariables false
set_option linter.unusedSimpArgs false
section
variable {P : Program}
structure Loc (rd base : Nat → Prop) (a b a' b' : List S) : Prop where
  la : a'.length = a.length
  lb : b'.length = b.length
  agree : ∀ i, rd i → a'[i]? = b'[i]?
  near : ∀ i, base i → a'[i]? = b'[i]? ∨ ∃ o o2, a'[i]? = some o ∧ b'[i]? = some o2 ∧ o.flat = true ∧ o2.flat = true
  kp : ∃ kp : Pl → Bool, (∀ q, kp q = false → base q.s) ∧ ∀ i, ¬ base i → a'[i]? = (a[i]?).map (S.killBy kp) ∧ b'[i]? = (b[i]?).map (S.killBy kp)
  clos : ∀ i s, rd i → a'[i]? = some s → ∀ k ∈ s.roots, rd k
  orig : ∀ i s, base i → a'[i]? = some s → (∃ x, s = .t x) ∨ a[i]? = some s
structure Done (rd base : Nat → Prop) (a b a' b' : List S) : Prop where
  la : a'.length = a.length
  lb : b'.length = b.length
  same : ∀ i, base i → a'[i]? = b'[i]?
  kp : ∃ kp : Pl → Bool, (∀ q, kp q = false → base q.s) ∧ ∀ i, ¬ base i → a'[i]? = (a[i]?).map (S.killBy kp) ∧ b'[i]? = (b[i]?).map (S.killBy kp)
  clos : ∀ i s, base i → a'[i]? = some s → ∀ k ∈ s.roots, rd k
variable {rd base : Nat → Prop} {a b a' b' : List S}
theorem map_true (o : Option S) : o = o.map (S.killBy fun _ => true) := by cases o <;> simp [killBy_true]
theorem killBy_flat {s : S} {kp : Pl → Bool} (h : s.flat = true) : (S.killBy kp s).flat = true := by
  cases s <;> simp only [S.killBy] <;> first
    | exact h
    | (split <;> rfl)
theorem killBy_roots {s : S} {kp : Pl → Bool} : ∀ k ∈ (S.killBy kp s).roots, k ∈ s.roots := by
  intro k hk
  cases s <;> simp only [S.killBy] at hk <;> first
    | exact hk
    | (split at hk <;> first | exact hk | simp [S.roots] at hk)
theorem killBy_orig {s : S} {kp : Pl → Bool} : (∃ x, S.killBy kp s = .t x) ∨ S.killBy kp s = s := by
  cases s <;> simp only [S.killBy] <;> first
    | exact .inl ⟨_, rfl⟩
    | (split <;> first | exact .inr rfl | exact .inl ⟨_, rfl⟩)
theorem Loc.start (h : ∀ i, rd i → a[i]? = b[i]?) (hn : ∀ i, base i → a[i]? = b[i]? ∨ ∃ o o2, a[i]? = some o ∧ b[i]? = some o2 ∧ o.flat = true ∧ o2.flat = true) (hc : ∀ i s, rd i → a[i]? = some s → ∀ k ∈ s.roots, rd k) : Loc rd base a b a b :=
  ⟨rfl, rfl, h, hn, ⟨fun _ => true, by simp, fun i _ => ⟨map_true _, map_true _⟩⟩, hc, fun i s _ h => .inr h⟩
theorem keep_base {p : Pl} {k : Bool} {q : Pl} (h : p.keep k q = false) : q.s = p.s := by
  simp only [Pl.keep, Bool.or_eq_false_iff, bne_eq_false_iff_eq] at h; exact h.1
theorem Loc.putN (L : Loc rd base a b a' b') {p : Pl} {y : T} {k : Bool} (hr : rd p.s) (hb : base p.s) {a2 : List S} (h : putN a' p y k = some a2) : ∃ b2, A.putN b' p y k = some b2 ∧ Loc rd base a b a2 b2 := by
  obtain ⟨x, hx, hlt, hl, hget, hother⟩ := putN_get h
  have hxb : b'[p.s]? = some (.t x) := by rw [← L.agree p.s hr]; exact hx
  have hb2 : A.putN b' p y k = some ((killP p k b').set p.s (.t (T.put y p.path x))) := by simp [A.putN, hxb]
  obtain ⟨x2, hx2, hlt2, hl2, hget2, hother2⟩ := putN_get hb2
  have : x2 = x := by rw [hxb] at hx2; cases hx2; rfl
  subst this
  refine ⟨_, hb2, hl.trans L.la, hl2.trans L.lb, fun i hi => ?_, fun i hi => ?_, ?_, fun i s hi hs => ?_, fun i s hi hs => ?_⟩
  · by_cases he : i = p.s
    · subst he; rw [hget, hget2]
    · rw [hother i he, hother2 i he, L.agree i hi]
  · by_cases he : i = p.s
    · subst he; exact .inl (by rw [hget, hget2])
    · rw [hother i he, hother2 i he]
      rcases L.near i hi with h | ⟨o, o2, h1, h2, h3, h4⟩
      · exact .inl (by rw [h])
      · exact .inr ⟨_, _, by rw [h1]; rfl, by rw [h2]; rfl, killBy_flat h3, killBy_flat h4⟩
  · obtain ⟨kp, h1, h2⟩ := L.kp
    refine ⟨fun q => p.keep k q && kp q, fun q hq => ?_, fun i hi => ?_⟩
    · simp only [Bool.and_eq_false_iff] at hq
      rcases hq with hq | hq
      · rw [keep_base hq]; exact hb
      · exact h1 q hq
    · have he : i ≠ p.s := fun e => hi (e ▸ hb)
      obtain ⟨h3, h4⟩ := h2 i hi
      rw [hother i he, hother2 i he, h3, h4]
      constructor
      · cases a[i]? <;> simp [killBy_and]
      · cases b[i]? <;> simp [killBy_and]
  · by_cases he : i = p.s
    · subst he; rw [hget] at hs; cases hs; simp [S.roots]
    · rw [hother i he] at hs
      cases h0 : a'[i]? with
      | none => simp [h0] at hs
      | some s0 =>
        simp [h0] at hs; subst hs
        exact fun j hj => L.clos i s0 hi h0 j (killBy_roots j hj)
  · by_cases he : i = p.s
    · subst he; rw [hget] at hs; cases hs; exact .inl ⟨_, rfl⟩
    · rw [hother i he] at hs
      cases h0 : a'[i]? with
      | none => simp [h0] at hs
      | some s0 =>
        simp [h0] at hs; subst hs
        rcases killBy_orig (s := s0) (kp := p.keep k) with h | h
        · exact .inl h
        · rw [h]; exact L.orig i s0 hi h0
theorem setD_loc (L : Loc rd base a b a' b') {d : Nat} {s : S} (hb : base d) {a2 : List S} (h : setD a' d s = some a2) :
    ∃ b2 kq, setD b' d s = some b2 ∧ a2.length = a'.length ∧ b2.length = b'.length ∧ a2[d]? = some s ∧ b2[d]? = some s ∧ (∀ q, kq q = false → q.s = d) ∧ ∀ i, i ≠ d → a2[i]? = (a'[i]?).map (S.killBy kq) ∧ b2[i]? = (b'[i]?).map (S.killBy kq) := by
  unfold setD at h ⊢
  cases ho : a'[d]? with
  | none => simp [ho] at h
  | some o =>
    have hd : d < a'.length := (List.getElem?_eq_some_iff.1 ho).1
    simp only [ho] at h
    split at h
    · rename_i hok
      cases h
      have hflat : ∀ o2, b'[d]? = some o2 → o.flat = o2.flat := by
        intro o2 h2
        rcases L.near d hb with h | ⟨x, x2, h3, h4, h5, h6⟩
        · rw [ho, h2] at h; cases h; rfl
        · rw [ho] at h3; cases h3; rw [h2] at h4; cases h4; rw [h5, h6]
      have hex : ∃ o2, b'[d]? = some o2 := by
        rcases L.near d hb with h | ⟨x, x2, h3, h4, _⟩
        · exact ⟨o, by rw [← h]; exact ho⟩
        · exact ⟨x2, h4⟩
      obtain ⟨o2, h2⟩ := hex
      have hd2 : d < b'.length := (List.getElem?_eq_some_iff.1 h2).1
      simp only [h2, hok, if_true]
      by_cases hf : o.flat = true
      · have hf2 : o2.flat = true := by rw [← hflat o2 h2]; exact hf
        rw [if_pos hf, if_pos hf2]
        refine ⟨_, fun _ => true, rfl, by simp, by simp, List.getElem?_set_self hd, List.getElem?_set_self hd2, by simp, fun i hi => ?_⟩
        rw [List.getElem?_set_ne (Ne.symm hi), List.getElem?_set_ne (Ne.symm hi)]
        exact ⟨map_true _, map_true _⟩
      · have hf2 : ¬ o2.flat = true := by rw [← hflat o2 h2]; exact hf
        rw [if_neg hf, if_neg hf2]
        refine ⟨_, Pl.keep ⟨d, []⟩ false, rfl, by simp [killP], by simp [killP], List.getElem?_set_self (by simpa [killP] using hd), List.getElem?_set_self (by simpa [killP] using hd2), fun q hq => keep_base hq, fun i hi => ?_⟩
        rw [List.getElem?_set_ne (Ne.symm hi), List.getElem?_set_ne (Ne.symm hi)]
        simp only [killP, List.getElem?_map]
        exact ⟨by congr 1, by congr 1⟩
    · cases h
theorem Loc.setD (L : Loc rd base a b a' b') {d : Nat} {x : T} (hb : base d) {a2 : List S} (h : setD a' d (.t x) = some a2) : ∃ b2, A.setD b' d (.t x) = some b2 ∧ Loc rd base a b a2 b2 := by
  obtain ⟨b2, kq, h1, h2, h3, h4, h5, h6, h7⟩ := setD_loc L hb h
  refine ⟨b2, h1, h2.trans L.la, h3.trans L.lb, fun i hi => ?_, fun i hi => ?_, ?_, fun i s hi hs => ?_, fun i s hi hs => ?_⟩
  · by_cases he : i = d
    · subst he; rw [h4, h5]
    · rw [(h7 i he).1, (h7 i he).2, L.agree i hi]
  · by_cases he : i = d
    · subst he; exact .inl (by rw [h4, h5])
    · rw [(h7 i he).1, (h7 i he).2]
      rcases L.near i hi with h | ⟨o, o2, g1, g2, g3, g4⟩
      · exact .inl (by rw [h])
      · exact .inr ⟨_, _, by rw [g1]; rfl, by rw [g2]; rfl, killBy_flat g3, killBy_flat g4⟩
  · obtain ⟨kp, g1, g2⟩ := L.kp
    refine ⟨fun q => kq q && kp q, fun q hq => ?_, fun i hi => ?_⟩
    · simp only [Bool.and_eq_false_iff] at hq
      rcases hq with hq | hq
      · rw [h6 q hq]; exact hb
      · exact g1 q hq
    · have he : i ≠ d := fun e => hi (e ▸ hb)
      rw [(h7 i he).1, (h7 i he).2, (g2 i hi).1, (g2 i hi).2]
      constructor
      · cases a[i]? <;> simp [killBy_and]
      · cases b[i]? <;> simp [killBy_and]
  · by_cases he : i = d
    · subst he; rw [h4] at hs; cases hs; simp [S.roots]
    · rw [(h7 i he).1] at hs
      cases h0 : a'[i]? with
      | none => simp [h0] at hs
      | some s0 =>
        simp [h0] at hs; subst hs
        exact fun j hj => L.clos i s0 hi h0 j (killBy_roots j hj)
  · by_cases he : i = d
    · subst he; rw [h4] at hs; cases hs; exact .inl ⟨_, rfl⟩
    · rw [(h7 i he).1] at hs
      cases h0 : a'[i]? with
      | none => simp [h0] at hs
      | some s0 =>
        simp [h0] at hs; subst hs
        rcases killBy_orig (s := s0) (kp := kq) with h | h
        · exact .inl h
        · rw [h]; exact L.orig i s0 hi h0
theorem Loc.putD (L : Loc rd base a b a' b') {dst : Option Nat} {s : S} (hb : ∀ i, base i → rd i ∨ dst = some i) (hd : ∀ d, dst = some d → base d) (hs : ∀ k ∈ s.roots, rd k) {a2 : List S} (h : putD a' dst s = some a2) : ∃ b2, A.putD b' dst s = some b2 ∧ Done rd base a b a2 b2 := by
  cases dst with
  | none =>
    simp only [A.putD, Option.some.injEq] at h; subst h
    refine ⟨b', rfl, L.la, L.lb, fun i hi => L.agree i ((hb i hi).resolve_right (by simp)), L.kp, fun i s hi hs => L.clos i s ((hb i hi).resolve_right (by simp)) hs⟩
  | some d =>
    have hbd := hd d rfl
    obtain ⟨b2, kq, h1, h2, h3, h4, h5, h6, h7⟩ := setD_loc L hbd h
    refine ⟨b2, h1, h2.trans L.la, h3.trans L.lb, fun i hi => ?_, ?_, fun i s' hi hs' => ?_⟩
    · by_cases he : i = d
      · subst he; rw [h4, h5]
      · rw [(h7 i he).1, (h7 i he).2, L.agree i ((hb i hi).resolve_right fun e => he (by cases e; rfl))]
    · obtain ⟨kp, g1, g2⟩ := L.kp
      refine ⟨fun q => kq q && kp q, fun q hq => ?_, fun i hi => ?_⟩
      · simp only [Bool.and_eq_false_iff] at hq
        rcases hq with hq | hq
        · rw [h6 q hq]; exact hbd
        · exact g1 q hq
      · have he : i ≠ d := fun e => hi (e ▸ hbd)
        rw [(h7 i he).1, (h7 i he).2, (g2 i hi).1, (g2 i hi).2]
        constructor
        · cases a[i]? <;> simp [killBy_and]
        · cases b[i]? <;> simp [killBy_and]
    · by_cases he : i = d
      · subst he; rw [h4] at hs'; cases hs'; exact hs
      · rw [(h7 i he).1] at hs'
        cases h0 : a'[i]? with
        | none => simp [h0] at hs'
        | some s0 =>
          simp [h0] at hs'; subst hs'
          exact fun j hj => L.clos i s0 ((hb i hi).resolve_right fun e => he (by cases e; rfl)) h0 j (killBy_roots j hj)
end
end Go.Proofs.Ytffofdfikmpanaa.A
namespace Go.Proofs.Ytffofdfikmpanaa.A
set_option linter.unusedVariables false
set_option linter.unusedSimpArgs false
section
variable {P : Program} {Rd Bs : Nat → Prop} {a b a' b' : List S}
theorem Loc.slAt (L : Loc Rd Bs a b a' b') {p : Pl} (h : Rd p.s) : slAt a' p = slAt b' p := by
  simp only [A.slAt]; rw [L.agree p.s h]
theorem Loc.rd (L : Loc Rd Bs a b a' b') {x : Operand} (hx : ∀ t, x = .tmp t → Rd t) : rd a' x = rd b' x := by
  cases x with
  | tmp t => simp only [A.rd]; rw [L.agree t (hx t rfl)]
  | _ => rfl
theorem Loc.pv (L : Loc Rd Bs a b a' b') {x : Operand} (hx : ∀ t, x = .tmp t → Rd t) : pv a' x = pv b' x := by
  simp only [A.pv]; rw [L.rd hx]
theorem Loc.roots (L : Loc Rd Bs a b a' b') {x : Operand} (hx : ∀ t, x = .tmp t → Rd t) {s : S} (h : A.rd a' x = some s) : ∀ k ∈ s.roots, Rd k := by
  cases x with
  | tmp t =>
    simp only [A.rd] at h
    cases hs : a'[t]? with
    | none => simp [hs] at h
    | some s0 =>
      simp [hs] at h
      subst h
      have ht := hx t rfl
      have hc := L.clos t s0 ht hs
      cases s0 with
      | t x =>
        cases x with
        | own ty es => intro k hk; simp [rdS, S.roots] at hk; subst hk; exact ht
        | opt ty cs => intro k hk; simp [rdS, S.roots] at hk; subst hk; exact ht
        | ifc u y =>
          cases y with
          | opt ty cs => intro k hk; simp [rdS, S.roots] at hk; subst hk; exact ht
          | _ => intro k hk; simp [rdS, S.roots] at hk
        | _ => intro k hk; simp [rdS, S.roots] at hk
      | _ => exact hc
  | const v =>
    simp only [A.rd] at h
    split at h
    · cases h; simp [S.roots]
    · cases h
  | func f => simp only [A.rd, Option.some.injEq] at h; subst h; simp [S.roots]
  | global g => simp [A.rd] at h
theorem Loc.elemsS (L : Loc Rd Bs a b a' b') {s : S} (h : ∀ k ∈ s.roots, Rd k) : elemsS P a' s = elemsS P b' s := by
  cases s with
  | bsl p off len ex => simp only [A.elemsS]; rw [L.slAt (h p.s (by simp [S.roots]))]
  | bar p j sz len => simp only [A.elemsS]; rw [L.slAt (h p.s (by simp [S.roots]))]
  | t x => cases x with
    | p v => cases v <;> rfl
    | own ty es => cases es <;> rfl
    | _ => rfl
  | _ => rfl
theorem Loc.srcA (L : Loc Rd Bs a b a' b') {x : Operand} (hx : ∀ t, x = .tmp t → Rd t) : srcA P a' x = srcA P b' x := by
  simp only [A.srcA]
  rw [← L.rd hx]
  cases h : A.rd a' x with
  | none => rfl
  | some s =>
    have := L.elemsS (P := P) (L.roots hx h)
    cases s with
    | t x => cases x with
      | p v => cases v <;> first | rfl | exact this
      | _ => exact this
    | _ => exact this
theorem Loc.conv (L : Loc Rd Bs a b a' b') {s d : TypeId} {x : S} (h : ∀ k ∈ x.roots, Rd k) : conv P s d a' x = conv P s d b' x := by
  unfold A.conv
  rw [L.elemsS h]
  cases x with
  | bpt p i j =>
    have hp := L.slAt (h p.s (by simp [S.roots]))
    cases P.underlying s with
    | none => rfl
    | some u =>
      cases P.underlying d with
      | none => cases u <;> rfl
      | some v =>
        cases u <;> cases v <;> first
          | rfl
          | (cases i <;> cases j <;> first | rfl | (simp only [hp]; done))
          | (simp only []; split <;> rfl)
  | t x => cases x with
    | p v => cases v <;> rfl
    | own ty es => cases es <;> rfl
    | _ => rfl
  | _ => rfl
theorem Loc.load (L : Loc Rd Bs a b a' b') {t : TypeId} {x : S} (h : ∀ k ∈ x.roots, Rd k) : load P t a' x = load P t b' x := by
  unfold A.load
  cases x with
  | bpt p i j => simp only [L.slAt (h p.s (by simp [S.roots]))]
  | t x => cases x with
    | p v => cases v <;> rfl
    | own ty es => cases es <;> rfl
    | _ => rfl
  | _ => rfl
theorem Loc.fieldAddr (L : Loc Rd Bs a b a' b') {t : TypeId} {f : Nat} {x : S} (h : ∀ k ∈ x.roots, Rd k) : fieldAddr P t a' x f = fieldAddr P t b' x f := by
  unfold A.fieldAddr
  cases x with
  | bpt p i j => simp only [L.slAt (h p.s (by simp [S.roots]))]
  | t x => cases x with
    | p v => cases v <;> rfl
    | own ty es => cases es <;> rfl
    | _ => rfl
  | _ => rfl
theorem Loc.indexAddr (L : Loc Rd Bs a b a' b') {t : TypeId} {n : Int} {x : S} (h : ∀ k ∈ x.roots, Rd k) : indexAddr P t a' x n = indexAddr P t b' x n := by
  unfold A.indexAddr
  cases x with
  | bpt p i j => simp only [L.slAt (h p.s (by simp [S.roots]))]
  | bsl p off len ex => simp only [L.slAt (h p.s (by simp [S.roots]))]
  | t x => cases x with
    | p v => cases v <;> rfl
    | own ty es => cases es <;> rfl
    | _ => rfl
  | _ => rfl
theorem Loc.bnd (L : Loc Rd Bs a b a' b') {d : Nat} {x : Option Operand} (hx : ∀ y, x = some y → ∀ t, y = .tmp t → Rd t) : bnd a' d x = bnd b' d x := by
  cases x with
  | none => rfl
  | some y => simp only [A.bnd]; rw [L.pv (hx y rfl)]
theorem Loc.sliceOp (L : Loc Rd Bs a b a' b') {t : TypeId} {lo hi mx : Option Operand} {x : S} (h : ∀ k ∈ x.roots, Rd k) (h1 : ∀ y, lo = some y → ∀ t, y = .tmp t → Rd t) (h2 : ∀ y, hi = some y → ∀ t, y = .tmp t → Rd t) (h3 : ∀ y, mx = some y → ∀ t, y = .tmp t → Rd t) :
    sliceOp P t a' x lo hi mx = sliceOp P t b' x lo hi mx := by
  have e1 : ∀ d, A.bnd a' d lo = A.bnd b' d lo := fun d => L.bnd h1
  have e2 : ∀ d, A.bnd a' d hi = A.bnd b' d hi := fun d => L.bnd h2
  have e3 : ∀ d, A.bnd a' d mx = A.bnd b' d mx := fun d => L.bnd h3
  unfold A.sliceOp
  simp only [e1, e2, e3]
  cases x with
  | bpt p i j => simp only [L.slAt (h p.s (by simp [S.roots]))]
  | bsl p off len ex => simp only [L.slAt (h p.s (by simp [S.roots]))]
  | t x => cases x with
    | p v => cases v <;> rfl
    | own ty es => cases es <;> rfl
    | _ => rfl
  | _ => rfl
theorem Loc.ints (L : Loc Rd Bs a b a' b') : ∀ {xs : List Operand}, (∀ x ∈ xs, ∀ t, x = .tmp t → Rd t) → ints a' xs = ints b' xs
  | [], _ => rfl
  | [x], h => by simp only [A.ints]; rw [L.pv (h x (by simp))]
  | x :: y :: r, h => by
    simp only [A.ints]
    rw [L.pv (h x (by simp))]
    have := L.ints (xs := y :: r) fun z hz => h z (List.mem_cons_of_mem _ hz)
    rw [this]
end
end Go.Proofs.Ytffofdfikmpanaa.A
namespace Go.Proofs.Ytffofdfikmpanaa.A
set_option linter.unusedVariables false
set_option linter.unusedSimpArgs false
section
variable {P : Program} {Rd Bs : Nat → Prop} {a b a' b' : List S} {sl : List S}
theorem loadCell_roots {p : Pl} {j : Nat} {y : T} {s : S} (h : loadCell p j y = some s) : ∀ k ∈ s.roots, k = p.s := by
  unfold loadCell at h
  split at h <;> first
    | (cases h; simp [S.roots]; done)
    | (cases h; intro k hk; simpa [S.roots] using hk)
    | cases h
theorem load_roots {t : TypeId} {x s : S} (h : load P t sl x = some s) : ∀ k ∈ s.roots, k ∈ x.roots := by
  unfold load at h
  repeat' split at h
  all_goals first
    | (cases h; done)
    | (cases h; intro k hk; simp [S.roots] at hk; done)
    | (intro k hk; have := loadCell_roots h k hk; simpa [S.roots] using this)
theorem conv_roots {u d : TypeId} {x s : S} (h : conv P u d sl x = some s) : ∀ k ∈ s.roots, k ∈ x.roots := by
  unfold conv at h
  repeat' split at h
  all_goals first
    | (cases h; done)
    | (cases h; intro k hk; simp [S.roots] at hk; done)
    | (cases h; exact fun k hk => hk)
theorem fieldAddr_roots {t : TypeId} {f : Nat} {x s : S} (h : fieldAddr P t sl x f = some s) : ∀ k ∈ s.roots, k ∈ x.roots := by
  unfold fieldAddr at h
  repeat' split at h
  all_goals first
    | (cases h; done)
    | (cases h; intro k hk; simp [S.roots] at hk; done)
    | (cases h; exact fun k hk => hk)
theorem indexAddr_roots {t : TypeId} {n : Int} {x s : S} (h : indexAddr P t sl x n = some s) : ∀ k ∈ s.roots, k ∈ x.roots := by
  unfold indexAddr at h
  repeat' split at h
  all_goals first
    | (cases h; done)
    | (cases h; intro k hk; simp [S.roots] at hk; done)
    | (cases h; exact fun k hk => hk)
theorem sliceOp_roots {t : TypeId} {lo hi mx : Option Operand} {x s : S} (h : sliceOp P t sl x lo hi mx = some s) : ∀ k ∈ s.roots, k ∈ x.roots := by
  unfold sliceOp at h
  repeat' split at h
  all_goals first
    | (cases h; done)
    | (cases h; intro k hk; simp [S.roots] at hk; done)
    | (cases h; exact fun k hk => hk)
def Reads (Rd : Nat → Prop) (xs : List Operand) : Prop := ∀ x ∈ xs, ∀ t, x = .tmp t → Rd t
theorem Loc.lookA (L : Loc Rd Bs a b a' b') {op : Op} (hx : Reads Rd op.operands.toList) : lookA P a' op = lookA P b' op ∧ ∀ s, lookA P a' op = some s → ∀ k ∈ s.roots, Rd k := by
  cases op with
  | move x =>
    have h := L.rd (hx x (by simp [Op.operands]))
    have hr := fun s hs => L.roots (s := s) (hx x (by simp [Op.operands])) hs
    refine ⟨by simp only [A.lookA, h], fun s hs => ?_⟩
    simp only [A.lookA] at hs
    split at hs
    · cases hs; simp [S.roots]
    · cases hs
    · exact hr s hs
  | pick c x y =>
    have h1 := L.pv (hx c (by simp [Op.operands]))
    have h2 := L.pv (hx x (by simp [Op.operands]))
    have h3 := L.pv (hx y (by simp [Op.operands]))
    refine ⟨by simp only [A.lookA, h1, h2, h3], fun s hs => ?_⟩
    simp only [A.lookA] at hs
    split at hs
    · split at hs
      · cases hs; simp [S.roots]
      · cases hs
    · cases hs
  | nilCheck x =>
    have h := L.rd (hx x (by simp [Op.operands]))
    have hr := fun s hs => L.roots (s := s) (hx x (by simp [Op.operands])) hs
    refine ⟨by simp only [A.lookA, h], fun s hs => ?_⟩
    simp only [A.lookA] at hs
    split at hs
    · rename_i p i j hh; cases hs; exact hr _ hh
    · cases hs; simp [S.roots]
    · cases hs
  | binOp o t x y yt =>
    have h1 := L.rd (hx x (by simp [Op.operands]))
    have h2 := L.rd (hx y (by simp [Op.operands]))
    refine ⟨by simp only [A.lookA, h1, h2]; rfl, fun s hs => ?_⟩
    simp only [A.lookA] at hs
    split at hs
    · split at hs
      · cases hs; simp [S.roots]
      · cases hs
    · cases hs
  | unOp o t x =>
    have h1 := L.pv (hx x (by simp [Op.operands]))
    refine ⟨by simp only [A.lookA, h1], fun s hs => ?_⟩
    simp only [A.lookA] at hs
    split at hs
    · split at hs
      · cases hs; simp [S.roots]
      · cases hs
    · cases hs
  | convert u d x =>
    have h := L.rd (hx x (by simp [Op.operands]))
    have hr := fun s hs => L.roots (s := s) (hx x (by simp [Op.operands])) hs
    refine ⟨?_, fun s hs => ?_⟩
    · simp only [A.lookA, ← h]
      cases hh : A.rd a' x with
      | none => rfl
      | some s => exact L.conv (hr s hh)
    · simp only [A.lookA] at hs
      split at hs
      · rename_i s0 hh; exact fun k hk => hr s0 hh k (conv_roots hs k hk)
      · cases hs
  | load t x =>
    have h := L.rd (hx x (by simp [Op.operands]))
    have hr := fun s hs => L.roots (s := s) (hx x (by simp [Op.operands])) hs
    refine ⟨?_, fun s hs => ?_⟩
    · simp only [A.lookA, ← h]
      cases hh : A.rd a' x with
      | none => rfl
      | some s => exact L.load (hr s hh)
    · simp only [A.lookA] at hs
      split at hs
      · rename_i s0 hh; exact fun k hk => hr s0 hh k (load_roots hs k hk)
      · cases hs
  | fieldAddr t x f =>
    have h := L.rd (hx x (by simp [Op.operands]))
    have hr := fun s hs => L.roots (s := s) (hx x (by simp [Op.operands])) hs
    refine ⟨?_, fun s hs => ?_⟩
    · simp only [A.lookA, ← h]
      cases hh : A.rd a' x with
      | none => rfl
      | some s => exact L.fieldAddr (hr s hh)
    · simp only [A.lookA] at hs
      split at hs
      · rename_i s0 hh; exact fun k hk => hr s0 hh k (fieldAddr_roots hs k hk)
      · cases hs
  | indexAddr t x i =>
    have h := L.rd (hx x (by simp [Op.operands]))
    have h2 := L.pv (hx i (by simp [Op.operands]))
    have hr := fun s hs => L.roots (s := s) (hx x (by simp [Op.operands])) hs
    refine ⟨?_, fun s hs => ?_⟩
    · simp only [A.lookA, ← h, ← h2]
      cases hh : A.rd a' x with
      | none => rfl
      | some s =>
        cases hi : A.pv a' i with
        | none => rfl
        | some v => cases v <;> first | rfl | exact L.indexAddr (hr s hh)
    · simp only [A.lookA] at hs
      split at hs
      · rename_i s0 _ _ hh _; exact fun k hk => hr s0 hh k (indexAddr_roots hs k hk)
      · cases hs
  | index t x i =>
    have h1 := L.pv (hx x (by simp [Op.operands]))
    have h2 := L.pv (hx i (by simp [Op.operands]))
    refine ⟨by simp only [A.lookA, h1, h2], fun s hs => ?_⟩
    simp only [A.lookA] at hs
    split at hs
    · split at hs
      · cases hs; simp [S.roots]
      · cases hs
    · cases hs
  | field t x f =>
    have h1 := L.pv (hx x (by simp [Op.operands]))
    refine ⟨by simp only [A.lookA, h1], fun s hs => ?_⟩
    simp only [A.lookA] at hs
    split at hs
    · split at hs
      · cases hs; simp [S.roots]
      · cases hs
    · cases hs
  | slice t x lo hi mx =>
    have h := L.rd (hx x (by simp [Op.operands]))
    have hr := fun s hs => L.roots (s := s) (hx x (by simp [Op.operands])) hs
    have o1 : ∀ y, lo = some y → ∀ t, y = .tmp t → Rd t := fun y e => hx y (by subst e; simp [Op.operands])
    have o2 : ∀ y, hi = some y → ∀ t, y = .tmp t → Rd t := fun y e => hx y (by subst e; simp [Op.operands])
    have o3 : ∀ y, mx = some y → ∀ t, y = .tmp t → Rd t := fun y e => hx y (by subst e; simp [Op.operands])
    refine ⟨?_, fun s hs => ?_⟩
    · simp only [A.lookA, ← h]
      split
      · rfl
      · cases hh : A.rd a' x with
        | none => rfl
        | some s => exact L.sliceOp (hr s hh) o1 o2 o3
    · simp only [A.lookA] at hs
      split at hs
      · cases hs
      · split at hs
        · rename_i s0 hh; exact fun k hk => hr s0 hh k (sliceOp_roots hs k hk)
        · cases hs
  | sliceToArrayPointer t x =>
    have h := L.rd (hx x (by simp [Op.operands]))
    refine ⟨by simp only [A.lookA, h], fun s hs => ?_⟩
    simp only [A.lookA] at hs
    split at hs
    · unfold arrayAt at hs
      split at hs
      · split at hs
        · cases hs; simp [S.roots]
        · cases hs
      · rename_i hh
        split at hs
        · cases hs
          intro k hk
          exact L.roots (hx x (by simp [Op.operands])) (by assumption) k (by simpa [S.roots] using hk)
        · cases hs
      · cases hs
    · cases hs
  | makeFunc fn first captured =>
    refine ⟨by cases fn <;> rfl, fun s hs => ?_⟩
    cases fn <;> simp only [A.lookA] at hs <;> first | (cases hs; done) | (split at hs <;> first | (cases hs; simp [S.roots]; done) | (cases hs; done))
  | call c =>
    obtain ⟨callee, args, ts⟩ := c
    cases callee with
    | value f => exact ⟨by simp only [A.lookA], fun s hs => by simp only [A.lookA] at hs; cases hs⟩
    | invoke r m => exact ⟨by simp only [A.lookA], fun s hs => by simp only [A.lookA] at hs; cases hs⟩
    | builtin bi =>
      obtain ⟨args⟩ := args
      obtain ⟨ts⟩ := ts
      have hx' : ∀ x ∈ args, ∀ t, x = .tmp t → Rd t := fun x hm => hx x (by simp [Op.operands, Call.operands, hm])
      cases bi <;> try exact ⟨by simp only [A.lookA], fun s hs => by simp only [A.lookA] at hs; cases hs⟩
      case len =>
        refine ⟨?_, fun s hs => ?_⟩
        · simp only [A.lookA]
          match args, ts, hx' with
          | [x], [t], hx' => simp only [L.rd (hx' x (by simp))]; rfl
          | [], _, _ => rfl
          | [x], [], _ => rfl
          | [x], _ :: _ :: _, _ => rfl
          | _ :: _ :: _, _, _ => rfl
        · simp only [A.lookA] at hs
          repeat' split at hs
          all_goals first | (cases hs; done) | (cases hs; simp [S.roots])
      case min =>
        refine ⟨by simp only [A.lookA, L.ints hx'], fun s hs => ?_⟩
        simp only [A.lookA] at hs
        repeat' split at hs
        all_goals first | (cases hs; done) | (cases hs; simp [S.roots])
      case max =>
        refine ⟨by simp only [A.lookA, L.ints hx'], fun s hs => ?_⟩
        simp only [A.lookA] at hs
        repeat' split at hs
        all_goals first | (cases hs; done) | (cases hs; simp [S.roots])
      case unsafeSliceData =>
        match args, hx' with
        | [x], hx' =>
          have h := L.rd (hx' x (by simp))
          have hr := fun s hs => L.roots (s := s) (hx' x (by simp)) hs
          refine ⟨by simp only [A.lookA, h], fun s hs => ?_⟩
          simp only [A.lookA] at hs
          split at hs
          · rename_i p n ex hh; cases hs; exact fun k hk => hr _ hh k (by simpa [S.roots] using hk)
          · cases hs
        | [], _ => exact ⟨rfl, fun s hs => by simp only [A.lookA] at hs; cases hs⟩
        | _ :: _ :: _, _ => exact ⟨rfl, fun s hs => by simp only [A.lookA] at hs; cases hs⟩
  | _ => exact ⟨by simp only [A.lookA], fun s hs => by simp only [A.lookA] at hs; cases hs⟩
end
end Go.Proofs.Ytffofdfikmpanaa.A
namespace Go.Proofs.Ytffofdfikmpanaa.A
set_option linter.unusedVariables false
set_option linter.unusedSimpArgs false
section
variable {P : Program} {Rd Bs : Nat → Prop} {a b a' b' : List S}
def LocR {α : Type} (Rd Bs : Nat → Prop) (a b : List S) (x y : Option (α × List S)) : Prop := ∀ v a2, x = some (v, a2) → ∃ b2, y = some (v, b2) ∧ Loc Rd Bs a b a2 b2
theorem Loc.was (L : Loc Rd Bs a b a' b') {t : Nat} {s : S} (h : a'[t]? = some s) : a[t]? = some s ∨ (Bs t ∧ ∃ x, s = .t x) ∨ s = .t .dead := by
  by_cases hb : Bs t
  · rcases L.orig t s hb h with hx | hx
    · exact .inr (.inl ⟨hb, hx⟩)
    · exact .inl hx
  · obtain ⟨kp, _, h2⟩ := L.kp
    rw [(h2 t hb).1] at h
    cases hs : a[t]? with
    | none => simp [hs] at h
    | some s0 =>
      simp [hs] at h
      subst h
      rcases killBy_orig (s := s0) (kp := kp) with ⟨x, hx⟩ | hx
      · have h3 : (a[t]?).map (S.killBy kp) = some (.t x) := by rw [hs]; simp [hx]
        rcases map_killBy_t h3 with h4 | h4
        · rw [hs] at h4; cases h4; rw [hx]; exact .inl rfl
        · rw [hx, h4]; exact .inr (.inr rfl)
      · rw [hx]; exact .inl rfl
theorem Loc.tk (L : Loc Rd Bs a b a' b') {x : Operand} (hx : ∀ t, x = .tmp t → Rd t) (hb : ∀ k ∈ tkB a x, Bs k) : LocR Rd Bs a b (tk P a' x) (tk P b' x) := by
  intro y a2 h
  cases x with
  | const v =>
    simp only [A.tk] at h ⊢
    split at h
    · rename_i z hz
      cases h
      exact ⟨b', rfl, L⟩
    · cases h
  | func f =>
    simp only [A.tk, Option.some.injEq, Prod.mk.injEq] at h ⊢
    obtain ⟨rfl, rfl⟩ := h
    exact ⟨b', ⟨rfl, rfl⟩, L⟩
  | global g => simp [A.tk] at h
  | tmp t =>
    have ht := hx t rfl
    have he := L.agree t ht
    simp only [A.tk] at h ⊢
    rw [← he]
    cases hs : a'[t]? with
    | none => simp [hs] at h
    | some s =>
      rw [hs] at h
      have take : ∀ {x : T}, s = .t x → x ≠ .dead → (∀ v, x ≠ .p v) → ∃ b2, some (x, (killP ⟨t, []⟩ false b').set t (.t .dead)) = some (x, b2) ∧ Loc Rd Bs a b ((killP ⟨t, []⟩ false a').set t (.t .dead)) b2 := by
        intro x hsx hnd hnp
        have hbt : Bs t := by
          rcases L.was hs with h0 | ⟨h0, _⟩ | h0
          · apply hb
            simp only [tkB, h0, hsx]
            cases x <;> first | exact List.mem_singleton.2 rfl | exact absurd rfl (hnp _)
          · exact h0
          · rw [hsx] at h0; cases h0; exact absurd rfl hnd
        have hp : A.putN a' ⟨t, []⟩ .dead false = some ((killP ⟨t, []⟩ false a').set t (.t .dead)) := by simp [A.putN, hs, hsx, T.put]
        obtain ⟨b2, h1, h2⟩ := L.putN (p := ⟨t, []⟩) ht hbt hp
        have hp2 : A.putN b' ⟨t, []⟩ .dead false = some ((killP ⟨t, []⟩ false b').set t (.t .dead)) := by simp [A.putN, ← he, hs, hsx, T.put]
        rw [hp2] at h1; cases h1
        exact ⟨_, rfl, h2⟩
      cases s with
      | t x =>
        cases x with
        | p v => simp only [Option.some.injEq, Prod.mk.injEq] at h; obtain ⟨rfl, rfl⟩ := h; exact ⟨b', rfl, L⟩
        | dead => cases h
        | self => cases h
        | own ty es => simp only [Option.some.injEq, Prod.mk.injEq] at h; obtain ⟨rfl, rfl⟩ := h; exact take rfl (by simp) (by simp)
        | opt ty cs => simp only [Option.some.injEq, Prod.mk.injEq] at h; obtain ⟨rfl, rfl⟩ := h; exact take rfl (by simp) (by simp)
        | tup cs => simp only [Option.some.injEq, Prod.mk.injEq] at h; obtain ⟨rfl, rfl⟩ := h; exact take rfl (by simp) (by simp)
        | agg cs => simp only [Option.some.injEq, Prod.mk.injEq] at h; obtain ⟨rfl, rfl⟩ := h; exact take rfl (by simp) (by simp)
        | ifc u y => simp only [Option.some.injEq, Prod.mk.injEq] at h; obtain ⟨rfl, rfl⟩ := h; exact take rfl (by simp) (by simp)
        | clo f y => simp only [Option.some.injEq, Prod.mk.injEq] at h; obtain ⟨rfl, rfl⟩ := h; exact take rfl (by simp) (by simp)
      | bsl p off len ex =>
        have hps : Rd p.s := L.clos t _ ht hs p.s (by simp [S.roots])
        have hbp : Bs p.s := by
          rcases L.was hs with h0 | ⟨_, x, h0⟩ | h0
          · exact hb p.s (by simp [tkB, h0])
          · cases h0
          · cases h0
        simp only at h ⊢
        rw [← L.slAt hps]
        split at h
        · rename_i ty es hz
          split at h
          · rename_i a3 hp
            cases h
            obtain ⟨b3, h1, h2⟩ := L.putN hps hbp hp
            rw [h1]
            exact ⟨b3, rfl, h2⟩
          · cases h
        · cases h
      | bar p j sz len =>
        have hps : Rd p.s := L.clos t _ ht hs p.s (by simp [S.roots])
        have hbp : Bs p.s := by
          rcases L.was hs with h0 | ⟨_, x, h0⟩ | h0
          · exact hb p.s (by simp [tkB, h0])
          · cases h0
          · cases h0
        split at h
        · rename_i heq; cases heq
        · rename_i heq; cases heq
        · rename_i heq; cases heq
        · rename_i heq; cases heq
        · rename_i heq; cases heq
        · rename_i p' j' len' heq
          cases heq
          rw [← L.slAt hps]
          split at h
          · rename_i ty cs hz
            split at h
            · rename_i l hl
              split at h
              · rename_i hst
                split at h
                · rename_i a3 hp
                  cases h
                  obtain ⟨b3, h1, h2⟩ := L.putN hps hbp hp
                  simp only [hl, if_pos hst, h1]
                  exact ⟨b3, rfl, h2⟩
                · cases h
              · cases h
            · cases h
          · cases h
        · cases h
      | _ => cases h
theorem Loc.tkV (L : Loc Rd Bs a b a' b') {x : Operand} (hx : ∀ t, x = .tmp t → Rd t) (hb : ∀ k ∈ tkB a x, Bs k) : LocR Rd Bs a b (tkV P a' x) (tkV P b' x) := by
  intro y a2 h
  simp only [A.tkV] at h ⊢
  split at h
  · rename_i v a3 ht
    obtain ⟨b3, h1, h2⟩ := L.tk hx hb _ _ ht
    split at h
    · rename_i hs
      cases h
      rw [h1]; simp only [if_pos hs]
      exact ⟨b3, rfl, h2⟩
    · cases h
  · rename_i ty es a3 ht
    cases h
    obtain ⟨b3, h1, h2⟩ := L.tk hx hb _ _ ht
    rw [h1]
    exact ⟨b3, rfl, h2⟩
  · cases h
theorem Loc.tkT (L : Loc Rd Bs a b a' b') {ty : TypeId} {x : Operand} (hx : ∀ t, x = .tmp t → Rd t) (hb : ∀ k ∈ tkB a x, Bs k) : LocR Rd Bs a b (tkT P ty a' x) (tkT P ty b' x) := by
  intro y a2 h
  simp only [A.tkT] at h ⊢
  split at h
  · rename_i v a3 ht
    cases h
    obtain ⟨b3, h1, h2⟩ := L.tk hx hb _ _ ht
    rw [h1]
    exact ⟨b3, rfl, h2⟩
  · cases h
theorem Loc.tkVT (L : Loc Rd Bs a b a' b') {ty : TypeId} {x : Operand} (hx : ∀ t, x = .tmp t → Rd t) (hb : ∀ k ∈ tkB a x, Bs k) : LocR Rd Bs a b (tkVT P ty a' x) (tkVT P ty b' x) := by
  intro y a2 h
  simp only [A.tkVT] at h ⊢
  split at h
  · rename_i v a3 ht
    cases h
    obtain ⟨b3, h1, h2⟩ := L.tkV hx hb _ _ ht
    rw [h1]
    exact ⟨b3, rfl, h2⟩
  · cases h
theorem Loc.tkVs {ty : Nat → TypeId} : ∀ {ps : List (Nat × Operand)} {a' b' : List S}, Loc Rd Bs a b a' b' → (∀ p ∈ ps, ∀ t, p.2 = .tmp t → Rd t) → (∀ p ∈ ps, ∀ k ∈ tkB a p.2, Bs k) → LocR Rd Bs a b (tkVs P ty a' ps) (tkVs P ty b' ps)
  | [], a', b', L, _, _ => fun v a2 h => by
    simp only [A.tkVs, Option.some.injEq, Prod.mk.injEq] at h ⊢
    obtain ⟨rfl, rfl⟩ := h
    exact ⟨b', ⟨rfl, rfl⟩, L⟩
  | (i, x) :: r, a', b', L, hx, hb => fun v a2 h => by
    simp only [A.tkVs] at h ⊢
    split at h
    · rename_i u a3 h1
      obtain ⟨b3, h2, L3⟩ := L.tkVT (hx (i, x) (by simp)) (hb (i, x) (by simp)) _ _ h1
      rw [h2]
      split at h
      · rename_i l a4 h4
        cases h
        obtain ⟨b4, h5, L4⟩ := Loc.tkVs L3 (fun p hp => hx p (List.mem_cons_of_mem _ hp)) (fun p hp => hb p (List.mem_cons_of_mem _ hp)) _ _ h4
        simp only [h5]
        exact ⟨b4, rfl, L4⟩
      · cases h
    · cases h
theorem Loc.done (L : Loc Rd Bs a b a' b') (h : ∀ i, Bs i → Rd i) : Done Rd Bs a b a' b' :=
  ⟨L.la, L.lb, fun i hi => L.agree i (h i hi), L.kp, fun i s hi => L.clos i s (h i hi)⟩
end
end Go.Proofs.Ytffofdfikmpanaa.A
namespace Go.Proofs.Ytffofdfikmpanaa.A
set_option linter.unusedVariables false
set_option linter.unusedSimpArgs false
section
variable {P : Program} {Rd Bs : Nat → Prop} {a b a' b' : List S}
def DoneR (Rd Bs : Nat → Prop) (a b : List S) (x y : Option (List S)) : Prop := ∀ a2, x = some a2 → ∃ b2, y = some b2 ∧ Done Rd Bs a b a2 b2
theorem Loc.putDR (L : Loc Rd Bs a b a' b') {dst : Option Nat} {s : S} (hb : ∀ i, Bs i → Rd i ∨ dst = some i) (hd : ∀ d, dst = some d → Bs d) (hs : ∀ k ∈ s.roots, Rd k) : DoneR Rd Bs a b (A.putD a' dst s) (A.putD b' dst s) :=
  fun a2 h => L.putD hb hd hs h
theorem Loc.assign (L : Loc Rd Bs a b a' b') {x : Operand} {d : Nat} (hx : ∀ t, x = .tmp t → Rd t) (hb : ∀ k ∈ tkB a x, Bs k) (hbs : ∀ i, Bs i → Rd i ∨ some d = some i) (hd : Bs d) : DoneR Rd Bs a b (assignOp P a' x d) (assignOp P b' x d) := by
  have fin : DoneR Rd Bs a b (match A.tk P a' x with | some (y, sl') => A.setD sl' d (.t y) | none => none) (match A.tk P b' x with | some (y, sl') => A.setD sl' d (.t y) | none => none) := by
    intro a2 h
    split at h
    · rename_i y a3 h1
      obtain ⟨b3, h2, L3⟩ := L.tk hx hb _ _ h1
      rw [h2]
      exact L3.putD (dst := some d) hbs (fun e he => by cases he; exact hd) (by simp [S.roots]) h
    · cases h
  have put : ∀ {s : S}, (∀ k ∈ s.roots, Rd k) → DoneR Rd Bs a b (A.setD a' d s) (A.setD b' d s) := fun hs a2 h => L.putD (dst := some d) hbs (fun e he => by cases he; exact hd) hs h
  cases x with
  | tmp u =>
    have hu := hx u rfl
    unfold assignOp
    simp only
    rw [← L.agree u hu]
    cases hs : a'[u]? with
    | none => exact fin
    | some s =>
      have hc := L.clos u s hu hs
      cases s with
      | t y => exact fin
      | bsl p off len ex =>
        simp only
        by_cases hp : p = ⟨d, []⟩
        · subst hp
          simp only [if_true]
          have hrd : Rd d := hc d (by simp [S.roots])
          rw [← L.agree d hrd]
          intro a2 h
          split at h
          · rename_i ty es hd'
            cases h
            have hp : A.putN a' ⟨d, []⟩ (.own ty ((es.drop off).take len)) false = some ((killP ⟨d, []⟩ false a').set d (.t (.own ty ((es.drop off).take len)))) := by simp [A.putN, hd', T.put]
            obtain ⟨b2, h1, h2⟩ := L.putN (p := ⟨d, []⟩) hrd hd hp
            have hp2 : A.putN b' ⟨d, []⟩ (.own ty ((es.drop off).take len)) false = some ((killP ⟨d, []⟩ false b').set d (.t (.own ty ((es.drop off).take len)))) := by
              have : b'[d]? = some (.t (.own ty es)) := by rw [← L.agree d hrd]; exact hd'
              simp [A.putN, this, T.put]
            rw [hp2] at h1; cases h1
            exact ⟨_, rfl, h2.done fun i hi => (hbs i hi).elim id fun e => by cases e; exact hrd⟩
          · cases h
        · simp only [if_neg hp]; exact fin
      | bpt p i j => exact put hc
      | bar p j sz len => exact put hc
      | bfc u p => exact put hc
      | bfn f caps => exact put hc
  | _ => exact fin
theorem Loc.storeOne (L : Loc Rd Bs a b a' b') {ty : TypeId} {x : Operand} {p : Pl} {j : Nat} (hx : ∀ t, x = .tmp t → Rd t) (hb : ∀ k ∈ tkB a x, Bs k) (hp : Rd p.s) (hpb : Bs p.s) (hbs : ∀ i, Bs i → Rd i) : DoneR Rd Bs a b (storeOne P ty a' p j x) (storeOne P ty b' p j x) := by
  intro a2 h
  unfold A.storeOne at h ⊢
  split at h
  · rename_i y a3 h1
    obtain ⟨b3, h2, L3⟩ := L.tkT hx hb _ _ h1
    simp only [h2]
    rw [← L3.slAt hp]
    split at h
    · rename_i ty' cs' hz
      split at h
      · rename_i hh
        rw [if_pos hh]
        obtain ⟨b4, h4, L4⟩ := L3.putN hp hpb h
        exact ⟨b4, h4, L4.done hbs⟩
      · cases h
    · cases h
  · cases h
theorem Loc.storeAt (L : Loc Rd Bs a b a' b') {t : TypeId} {x : Operand} {p : Pl} {i j : Nat} (hx : ∀ t, x = .tmp t → Rd t) (hb : ∀ k ∈ tkB a x, Bs k) (hp : Rd p.s) (hpb : Bs p.s) (hbs : ∀ i, Bs i → Rd i) : DoneR Rd Bs a b (storeAt P t a' p i j x) (storeAt P t b' p i j x) := by
  have one : DoneR Rd Bs a b (A.storeOne P t a' p j x) (A.storeOne P t b' p j x) := L.storeOne hx hb hp hpb hbs
  unfold A.storeAt
  rw [← L.slAt hp]
  cases hz : A.slAt a' p with
  | none => intro a2 h; cases h
  | some z =>
    cases z with
    | own ty es =>
      intro a2 h
      simp only at h ⊢
      split at h
      · rename_i v a3 h1
        obtain ⟨b3, h2, L3⟩ := L.tkVT hx hb _ _ h1
        simp only [h2]
        rw [← L3.slAt hp]
        split at h
        · rename_i ty' es' hz'
          split at h
          · rename_i e he
            split at h
            · rename_i hh
              rw [if_pos hh]
              obtain ⟨b4, h4, L4⟩ := L3.putN hp hpb h
              exact ⟨b4, h4, L4.done hbs⟩
            · cases h
          · cases h
        · cases h
      · cases h
    | opt ty cs =>
      simp only
      by_cases h1 : aggT P t = some true ∧ 0 < P.cellsOf t
      · simp only [if_pos h1]
        intro a2 h
        split at h
        · rename_i vs a3 ht
          obtain ⟨b3, h2, L3⟩ := L.tk hx hb _ _ ht
          simp only [h2]
          rw [← L3.slAt hp]
          split at h
          · split at h
            · rename_i hh
              rw [if_pos hh]
              obtain ⟨b4, h4, L4⟩ := L3.putN hp hpb h
              exact ⟨b4, h4, L4.done hbs⟩
            · cases h
          · cases h
        · rename_i ts a3 ht
          obtain ⟨b3, h2, L3⟩ := L.tk hx hb _ _ ht
          simp only [h2]
          rw [← L3.slAt hp]
          split at h
          · split at h
            · rename_i hh
              rw [if_pos hh]
              obtain ⟨b4, h4, L4⟩ := L3.putN hp hpb h
              exact ⟨b4, h4, L4.done hbs⟩
            · cases h
          · cases h
        · cases h
      · simp only [if_neg h1]
        by_cases h2 : aggT P t = some false ∧ P.cellsOf t = 1
        · simp only [if_pos h2]
          cases x with
          | tmp u =>
            have hu := hx u rfl
            simp only
            rw [← L.agree u hu]
            cases hs : a'[u]? with
            | none => exact one
            | some s =>
              cases s with
              | bpt q i' j' =>
                match i', j' with
                | 0, 0 =>
                  intro a2 h
                  simp only at h ⊢
                  split at h
                  · rename_i hh
                    rw [if_pos hh]
                    obtain ⟨b4, h4, L4⟩ := L.putN hp hpb h
                    exact ⟨b4, h4, L4.done hbs⟩
                  · cases h
                | 0, _ + 1 => exact one
                | _ + 1, _ => exact one
              | bsl q off len ex =>
                simp only
                by_cases hq : q = ⟨p.s, p.path ++ [j]⟩
                · simp only [if_pos hq]
                  intro a2 h
                  split at h
                  · obtain ⟨b4, h4, L4⟩ := L.putN hp hpb h
                    exact ⟨b4, h4, L4.done hbs⟩
                  · cases h
                · simp only [if_neg hq]; exact one
              | _ => exact one
          | _ => exact one
        · simp only [if_neg h2]
          intro a2 h; cases h
    | _ => intro a2 h; cases h
end
end Go.Proofs.Ytffofdfikmpanaa.A
namespace Go.Proofs.Ytffofdfikmpanaa.A
set_option linter.unusedVariables false
set_option linter.unusedSimpArgs false
section
variable {P : Program} {Rd Bs : Nat → Prop} {a b a' b' : List S}
theorem Loc.takeSlot (L : Loc Rd Bs a b a' b') {t : Nat} {x : T} (ht : Rd t) (hb : ∀ k ∈ tkB a (.tmp t), Bs k) (hs : a'[t]? = some (.t x)) (hnd : x ≠ .dead) (hnp : ∀ v, x ≠ .p v) :
    b'[t]? = some (.t x) ∧ Loc Rd Bs a b ((killP ⟨t, []⟩ false a').set t (.t .dead)) ((killP ⟨t, []⟩ false b').set t (.t .dead)) := by
  have he := L.agree t ht
  have hbt : Bs t := by
    rcases L.was hs with h0 | ⟨h0, _⟩ | h0
    · apply hb
      simp only [tkB, h0]
      cases x <;> first | exact List.mem_singleton.2 rfl | exact absurd rfl (hnp _)
    · exact h0
    · cases h0; exact absurd rfl hnd
  have hp : A.putN a' ⟨t, []⟩ .dead false = some ((killP ⟨t, []⟩ false a').set t (.t .dead)) := by simp [A.putN, hs, T.put]
  obtain ⟨b2, h1, h2⟩ := L.putN (p := ⟨t, []⟩) ht hbt hp
  have hp2 : A.putN b' ⟨t, []⟩ .dead false = some ((killP ⟨t, []⟩ false b').set t (.t .dead)) := by simp [A.putN, ← he, hs, T.put]
  rw [hp2] at h1; cases h1
  exact ⟨by rw [← he]; exact hs, h2⟩
theorem Loc.bslRoot (L : Loc Rd Bs a b a' b') {t : Nat} {p : Pl} {off len : Nat} {ex : Bool} (ht : Rd t) (hb : ∀ k ∈ tkB a (.tmp t), Bs k) (hs : a'[t]? = some (.bsl p off len ex)) : Rd p.s ∧ Bs p.s := by
  refine ⟨L.clos t _ ht hs p.s (by simp [S.roots]), ?_⟩
  rcases L.was hs with h0 | ⟨_, x, h0⟩ | h0
  · exact hb p.s (by simp [tkB, h0])
  · cases h0
  · cases h0
theorem Loc.srcM (L : Loc Rd Bs a b a' b') {e u : TypeId} {x : Operand} (hx : ∀ t, x = .tmp t → Rd t) : srcM P e u a' x = srcM P e u b' x := by
  unfold A.srcM
  rw [L.srcA hx, L.pv hx]
theorem Loc.append (L : Loc Rd Bs a b a' b') {e u : TypeId} {x y : Operand} {dst : Option Nat} (hx : ∀ t, x = .tmp t → Rd t) (hy : ∀ t, y = .tmp t → Rd t) (hb : ∀ k ∈ tkB a x, Bs k) (hbs : ∀ i, Bs i → Rd i ∨ dst = some i) (hd : ∀ d, dst = some d → Bs d) :
    DoneR Rd Bs a b (appendOp P e u a' x y dst) (appendOp P e u b' x y dst) := by
  unfold appendOp
  rw [← L.srcM hy]
  cases A.srcM P e u a' y with
  | none => intro a2 h; cases h
  | some se =>
    obtain ⟨sz2, es2⟩ := se
    simp only
    by_cases h0 : es2 = [] ∨ sz2 = P.cellsOf e
    · simp only [if_pos h0]
      have fin : ∀ {a3 b3 : List S} {es : List V}, Loc Rd Bs a b a3 b3 → DoneR Rd Bs a b
          (if es.length + es2.length ≤ 2147483648 ∧ P.bytesOf e ≤ 65536 ∧ 0 < P.cellsOf e ∧ zeroOk P e = true then A.putD a3 dst (.t (.own e (es ++ es2))) else none)
          (if es.length + es2.length ≤ 2147483648 ∧ P.bytesOf e ≤ 65536 ∧ 0 < P.cellsOf e ∧ zeroOk P e = true then A.putD b3 dst (.t (.own e (es ++ es2))) else none) := by
        intro a3 b3 es L3 a2 h
        split at h
        · rename_i hh
          rw [if_pos hh]
          exact L3.putD hbs hd (by simp [S.roots]) h
        · cases h
      cases x with
      | tmp t =>
        have ht := hx t rfl
        simp only
        rw [← L.agree t ht]
        cases hs : a'[t]? with
        | none => intro a2 h; cases h
        | some s =>
          cases s with
          | t y0 =>
            cases y0 with
            | own ty es =>
              simp only
              by_cases hc : ty = e ∨ (es = [] ∧ P.cellsOf ty = 0)
              · simp only [if_pos hc]
                exact fin (L.takeSlot ht hb hs (by simp) (by simp)).2
              · simp only [if_neg hc]; intro a2 h; cases h
            | p v =>
              cases v with
              | sl sn ex sz es =>
                cases ex with
                | false => intro a2 h; cases h
                | true =>
                  simp only
                  by_cases hc : (es = [] ∨ sz = P.cellsOf e) ∧ 0 < P.cellsOf e
                  · simp only [if_pos hc]
                    by_cases h2 : es2 = []
                    · simp only [if_pos h2]
                      exact L.putDR hbs hd (by simp [S.roots])
                    · simp only [if_neg h2]
                      exact fin L
                  · simp only [if_neg hc]; intro a2 h; cases h
              | _ => intro a2 h; cases h
            | _ => intro a2 h; cases h
          | bsl p off len ex =>
            obtain ⟨hp, hpb⟩ := L.bslRoot ht hb hs
            simp only
            rw [← L.slAt hp]
            cases A.slAt a' p with
            | none => intro a2 h; cases h
            | some z =>
              cases z with
              | own ty es =>
                simp only
                by_cases hc : ty = e ∨ (es = [] ∧ P.cellsOf ty = 0)
                · simp only [if_pos hc]
                  intro a2 h
                  split at h
                  · rename_i a3 h3
                    obtain ⟨b3, h4, L3⟩ := L.putN hp hpb h3
                    simp only [h4]
                    exact fin L3 a2 h
                  · cases h
                · simp only [if_neg hc]; intro a2 h; cases h
              | _ => intro a2 h; cases h
          | _ => intro a2 h; cases h
      | const v =>
        intro a2 h
        split at h
        · exact fin L a2 h
        · rename_i t ht; cases ht
        · cases h
      | _ => intro a2 h; cases h
    · simp only [if_neg h0]; intro a2 h; cases h
theorem Loc.appendF (L : Loc Rd Bs a b a' b') {e : TypeId} {x y : Operand} {dst : Option Nat} (hx : ∀ t, x = .tmp t → Rd t) (hy : ∀ t, y = .tmp t → Rd t) (hbs : ∀ i, Bs i → Rd i ∨ dst = some i) (hd : ∀ d, dst = some d → Bs d) :
    DoneR Rd Bs a b (appendF P e a' x y dst) (appendF P e b' x y dst) := by
  intro a2 h
  unfold A.appendF at h ⊢
  rw [← L.srcA hy]
  split at h
  · rename_i sz2 es2 hsrc
    split at h
    · rename_i h0
      rw [if_pos h0]
      split at h
      · rename_i t
        have ht := hx t rfl
        rw [← L.agree t ht]
        split at h
        · rename_i sz es hs
          split at h
          · rename_i hc
            simp only [hs]
            rw [if_pos hc]
            exact L.putD hbs hd (by simp [S.roots]) h
          · cases h
        · cases h
      · cases h
    · cases h
  · cases h
theorem Loc.copy (L : Loc Rd Bs a b a' b') {e : TypeId} {x y : Operand} {dst : Option Nat} (hx : ∀ t, x = .tmp t → Rd t) (hy : ∀ t, y = .tmp t → Rd t) (hb : ∀ s, A.rd a' x = some s → ∀ k ∈ s.roots, Bs k) (hbs : ∀ i, Bs i → Rd i ∨ dst = some i) (hd : ∀ d, dst = some d → Bs d) :
    DoneR Rd Bs a b (copyOp P e a' x y dst) (copyOp P e b' x y dst) := by
  intro a2 h
  unfold copyOp at h ⊢
  rw [← L.srcA hy]
  split at h
  · rename_i sz2 es2 hsrc
    rw [← L.rd hx]
    split at h
    · rename_i p off len ex hrd
      have hp := L.roots hx hrd p.s (by simp [S.roots])
      have hpb := hb _ hrd p.s (by simp [S.roots])
      rw [← L.slAt hp]
      split at h
      · rename_i ty es hz
        split at h
        · rename_i hh
          rw [if_pos hh]
          split at h
          · rename_i a3 h3
            obtain ⟨b3, h4, L3⟩ := L.putN hp hpb h3
            rw [h4]
            exact L3.putD hbs hd (by simp [S.roots]) h
          · cases h
        · cases h
      · cases h
    · rename_i p j len hrd
      have hp := L.roots hx hrd p.s (by simp [S.roots])
      have hpb := hb _ hrd p.s (by simp [S.roots])
      rw [← L.slAt hp]
      split at h
      · rename_i ty cs hz
        split at h
        · rename_i hh
          rw [if_pos hh]
          split at h
          · rename_i a3 h3
            obtain ⟨b3, h4, L3⟩ := L.putN hp hpb h3
            rw [h4]
            exact L3.putD hbs hd (by simp [S.roots]) h
          · cases h
        · cases h
      · cases h
    · cases h
  · cases h
end
end Go.Proofs.Ytffofdfikmpanaa.A
namespace Go.Proofs.Ytffofdfikmpanaa.A
set_option linter.unusedVariables false
set_option linter.unusedSimpArgs false
section
variable {P : Program} {Rd Bs : Nat → Prop} {a b a' b' : List S} {sl : List S}
theorem Loc.tkO (L : Loc Rd Bs a b a' b') {t : Nat} (ht : Rd t) (hb : ∀ k ∈ tkB a (.tmp t), Bs k) : LocR Rd Bs a b (tkO P a' t) (tkO P b' t) := by
  intro y a2 h
  have gen := L.tk (P := P) (x := .tmp t) (fun u hu => by cases hu; exact ht) hb
  unfold A.tkO at h ⊢
  rw [← L.agree t ht]
  cases hs : a'[t]? with
  | none => rw [hs] at h; exact gen _ _ h
  | some s =>
    rw [hs] at h
    cases s with
    | bsl p off len ex =>
      obtain ⟨hp, hpb⟩ := L.bslRoot ht hb hs
      dsimp only at h ⊢
      rw [← L.slAt hp]
      split at h
      · rename_i ty es hz
        split at h
        · rename_i a3 h3
          cases h
          obtain ⟨b3, h4, L3⟩ := L.putN hp hpb h3
          rw [h4]
          exact ⟨b3, rfl, L3⟩
        · cases h
      · cases h
    | _ => exact gen _ _ h
theorem rd_plX {x : Operand} {s : S} (h : rd sl x = some s) : ∀ k ∈ s.roots, k ∈ plX sl x := by
  cases x with
  | tmp t =>
    simp only [A.rd] at h
    cases hs : sl[t]? with
    | none => simp [hs] at h
    | some s0 =>
      simp [hs] at h
      subst h
      simp only [plX, hs]
      cases s0 with
      | t x =>
        cases x with
        | ifc u y =>
          cases y <;> intro k hk <;> simp [rdS, S.roots] at hk ⊢
          exact hk
        | own ty es => intro k hk; simpa [rdS, S.roots] using hk
        | opt ty cs => intro k hk; simpa [rdS, S.roots] using hk
        | _ => intro k hk; simp [rdS, S.roots] at hk
      | _ => exact fun k hk => hk
  | const v =>
    simp only [A.rd] at h
    split at h
    · cases h; simp [S.roots]
    · cases h
  | func f => simp only [A.rd, Option.some.injEq] at h; subst h; simp [S.roots]
  | global g => simp [A.rd] at h
theorem Loc.setT (L : Loc Rd Bs a b a' b') {t : Nat} {x y : T} (ht : Rd t) (hb : Bs t) (hs : a'[t]? = some (.t x)) : b'[t]? = some (.t x) ∧ Loc Rd Bs a b (a'.set t (.t y)) (b'.set t (.t y)) := by
  have hsb : b'[t]? = some (.t x) := by rw [← L.agree t ht]; exact hs
  have hl : t < a'.length := (List.getElem?_eq_some_iff.1 hs).1
  have hlb : t < b'.length := (List.getElem?_eq_some_iff.1 hsb).1
  refine ⟨hsb, by simp [L.la], by simp [L.lb], fun i hi => ?_, fun i hi => ?_, ?_, fun i s hi hs => ?_, fun i s hi hs => ?_⟩
  · by_cases he : i = t
    · subst he; rw [List.getElem?_set_self hl, List.getElem?_set_self hlb]
    · rw [List.getElem?_set_ne (Ne.symm he), List.getElem?_set_ne (Ne.symm he)]; exact L.agree i hi
  · by_cases he : i = t
    · subst he; rw [List.getElem?_set_self hl, List.getElem?_set_self hlb]; exact .inl rfl
    · rw [List.getElem?_set_ne (Ne.symm he), List.getElem?_set_ne (Ne.symm he)]; exact L.near i hi
  · obtain ⟨kp, h1, h2⟩ := L.kp
    refine ⟨kp, h1, fun i hi => ?_⟩
    have he : i ≠ t := fun e => hi (e ▸ hb)
    rw [List.getElem?_set_ne (Ne.symm he), List.getElem?_set_ne (Ne.symm he)]; exact h2 i hi
  · by_cases he : i = t
    · subst he; rw [List.getElem?_set_self hl] at hs; cases hs; simp [S.roots]
    · rw [List.getElem?_set_ne (Ne.symm he)] at hs; exact L.clos i s hi hs
  · by_cases he : i = t
    · subst he; rw [List.getElem?_set_self hl] at hs; cases hs; exact .inl ⟨_, rfl⟩
    · rw [List.getElem?_set_ne (Ne.symm he)] at hs; exact L.orig i s hi hs
theorem Loc.eff {K : Oracle} {H : Hints} {me : FuncId} (L : Loc Rd Bs a b a b) {op : Op} {dst : Option Nat} (hx : Reads Rd op.operands.toList) (hB : ∀ k ∈ effB H a op, Bs k) (hbs : ∀ i, Bs i → Rd i ∨ dst = some i) (hd : ∀ d, dst = some d → Bs d)
    (hc : isCall op = false) : DoneR Rd Bs a b (eff P K H me a dst op) (eff P K H me b dst op) := by
  have put : ∀ {a2 b2 : List S} {x : T}, Loc Rd Bs a b a2 b2 → DoneR Rd Bs a b (A.putD a2 dst (.t x)) (A.putD b2 dst (.t x)) := fun L2 => L2.putDR hbs hd (by simp [S.roots])
  cases op with
  | move x =>
    intro a2 h
    simp only [A.eff] at h ⊢
    split at h
    · rename_i y a3 h1
      obtain ⟨b3, h2, L3⟩ := L.tk (hx x (by simp [Op.operands])) hB _ _ h1
      rw [h2]; exact put L3 _ h
    · cases h
  | assign x =>
    intro a2 h
    simp only [A.eff] at h ⊢
    cases dst with
    | none => cases h
    | some d =>
      cases x with
      | tmp t =>
        simp only at h ⊢
        split at h
        · rename_i hg
          rw [if_pos hg]
          unfold giveOp at h ⊢
          split at h
          · rename_i y a3 h1
            obtain ⟨b3, h2, L3⟩ := L.tkO (hx (.tmp t) (by simp [Op.operands]) t rfl) hB _ _ h1
            rw [h2]
            exact L3.putD (dst := some d) hbs (fun e he => by cases he; exact hd d rfl) (by simp [S.roots]) h
          · cases h
        · rename_i hg
          rw [if_neg hg]
          exact L.assign (hx (.tmp t) (by simp [Op.operands])) hB hbs (hd d rfl) _ h
      | const v => exact L.assign (hx (.const v) (by simp [Op.operands])) hB hbs (hd d rfl) _ h
      | func f => exact L.assign (hx (.func f) (by simp [Op.operands])) hB hbs (hd d rfl) _ h
      | global g => exact L.assign (hx (.global g) (by simp [Op.operands])) hB hbs (hd d rfl) _ h
  | store t y x =>
    intro a2 h
    simp only [A.eff] at h ⊢
    cases dst with
    | some d => cases h
    | none =>
      rw [← L.rd (hx y (by simp [Op.operands]))]
      split at h
      · rename_i p i j _ hr
        have hp := L.roots (hx y (by simp [Op.operands])) hr p.s (by simp [S.roots])
        have hpb : Bs p.s := hB _ (by simp only [effB, List.mem_append]; exact .inl (rd_plX hr p.s (by simp [S.roots])))
        try rw [hr]
        exact L.storeAt (hx x (by simp [Op.operands])) (fun k hk => hB k (by simp only [effB, List.mem_append]; exact .inr hk)) hp hpb (fun i hi => (hbs i hi).resolve_right (by simp)) _ h
      · cases h
  | alloc t =>
    intro a2 h
    simp only [A.eff] at h ⊢
    split at h
    · split at h
      · exact put L _ h
      · cases h
    · cases h
  | box t x =>
    intro a2 h
    simp only [A.eff] at h ⊢
    have tkk := L.tkT (P := P) (ty := t) (hx x (by simp [Op.operands])) hB
    split at h
    · rename_i vs a3 h1
      obtain ⟨b3, h2, L3⟩ := tkk _ _ h1
      (try rw [h2]); (try dsimp only)
      split at h
      · rename_i hh; (try rw [if_pos hh]); exact put L3 _ h
      · cases h
    · rename_i ts a3 h1
      obtain ⟨b3, h2, L3⟩ := tkk _ _ h1
      (try rw [h2]); (try dsimp only)
      split at h
      · rename_i hh; (try rw [if_pos hh]); exact put L3 _ h
      · cases h
    · cases h
    · rename_i y a3 hn1 hn2 hn3 h1
      obtain ⟨b3, h2, L3⟩ := tkk _ _ h1
      rw [h2]
      split at h
      · rename_i hh
        have := put L3 _ h
        obtain ⟨b4, h4, D⟩ := this
        refine ⟨b4, ?_, D⟩
        rw [← h4]
        split
        · rename_i heq; cases heq; exact absurd rfl (hn1 _)
        · rename_i heq; cases heq; exact absurd rfl (hn2 _)
        · rename_i heq; cases heq; exact absurd rfl (hn3 _)
        · rename_i heq; cases heq; (try rw [if_pos hh])
        · rename_i heq; cases heq
      · cases h
    · cases h
  | build t parts =>
    intro a2 h
    simp only [A.eff] at h ⊢
    have hpI : partI a parts.toList = partI b parts.toList := by
      unfold partI
      split
      · rename_i t0 hps
        rw [L.agree t0 (hx (.tmp t0) (by simp [Op.operands]; exact ⟨0, by rw [← Array.mem_toList_iff, hps]; simp⟩) t0 rfl)]
      · rfl
    rw [← hpI]
    split at h
    · rename_i hzo
      rw [if_pos hzo]
      split at h
      · split at h
        · split at h
          · rename_i hh
            rw [if_pos hh]; exact put L _ h
          · cases h
        · cases h
      · cases h
    rename_i hzo
    rw [if_neg hzo]
    split at h
    · rename_i x hps
      have hps' := partI_eq hps
      (try rw [hps]); (try dsimp only)
      split at h
      · rename_i u y a3 h1
        obtain ⟨b3, h2, L3⟩ := L.tk (hx x (by simp [Op.operands]; exact ⟨0, by rw [← Array.mem_toList_iff, hps']; simp⟩)) (fun k hk => hB k (by simp only [effB, hps']; simpa using hk)) _ _ h1
        rw [h2]; (try dsimp only)
        split at h
        · rename_i hh
          rw [if_pos hh]; exact put L3 _ h
        · cases h
      · cases h
    · (try rename_i hps; rw [hps]); (try dsimp only)
      split at h
      · rename_i l a3 h1
        obtain ⟨b3, h2, L3⟩ := Loc.tkVs L (fun p hp t ht => hx p.2 (by simp [Op.operands]; exact ⟨_, by simpa using hp⟩) t ht) (fun p hp k hk => hB k (by simp only [effB, List.mem_flatMap]; exact ⟨p, hp, hk⟩)) _ _ h1
        (try rw [h2]); (try dsimp only)
        split at h
        · exact put L3 _ h
        · cases h
      · cases h
  | buildSlice t len parts =>
    intro a2 h
    simp only [A.eff] at h ⊢
    split at h
    · split at h
      · rename_i l a3 h1
        obtain ⟨b3, h2, L3⟩ := Loc.tkVs L (fun p hp t ht => hx p.2 (by simp [Op.operands]; exact ⟨_, by simpa using hp⟩) t ht) (fun p hp k hk => hB k (by simp only [effB, List.mem_flatMap]; exact ⟨p, hp, hk⟩)) _ _ h1
        (try rw [h2]); (try dsimp only)
        generalize hz : (if len = 0 then _ else _ : Option (List V)) = z at h ⊢
        cases z with
        | none => cases h
        | some es =>
          dsimp only at h ⊢
          split at h
          · rename_i hh; (try rw [if_pos hh]); exact put L3 _ h
          · cases h
      · cases h
    · cases h
  | makeSlice t l c =>
    intro a2 h
    simp only [A.eff] at h ⊢
    rw [← L.pv (hx l (by simp [Op.operands])), ← L.pv (hx c (by simp [Op.operands]))]
    split at h
    · rename_i e l0 c0 e1 e2 e3
      (try rw [e1, e2, e3]); (try dsimp only)
      split at h
      · split at h
        · rename_i hh; (try rw [if_pos hh]); exact put L _ h
        · cases h
      · cases h
    · cases h
  | load t y =>
    intro a2 h
    simp only [A.eff] at h ⊢
    rw [← L.rd (hx y (by simp [Op.operands]))]
    split at h
    · rename_i p i j hr
      have hp := L.roots (hx y (by simp [Op.operands])) hr p.s (by simp [S.roots])
      have hpb : Bs p.s := hB _ (by simp only [effB]; exact rd_plX hr p.s (by simp [S.roots]))
      (try rw [hr]); (try dsimp only)
      rw [← L.slAt hp]
      split at h
      · rename_i ty cs hz
        (try rw [hz]); (try dsimp only)
        split at h
        · rename_i hh
          (try rw [if_pos hh])
          split at h
          · rename_i hm
            (try rw [if_pos hm])
            split at h
            · cases h
            · rename_i hs
              (try rw [if_neg hs])
              split at h
              · rename_i a3 h3
                obtain ⟨b3, h4, L3⟩ := L.putN hp hpb h3
                rw [h4]; exact put L3 _ h
              · cases h
          · rename_i hm
            (try rw [if_neg hm])
            split at h
            · rename_i l hl
              split at h
              · rename_i a3 h3
                obtain ⟨b3, h4, L3⟩ := L.putN hp hpb h3
                rw [h4]; exact put L3 _ h
              · cases h
            · cases h
        · cases h
      · cases h
    · cases h
  | extract x i =>
    intro a2 h
    simp only [A.eff] at h ⊢
    cases x with
    | tmp t =>
      have ht := hx (.tmp t) (by simp [Op.operands]) t rfl
      dsimp only at h ⊢
      rw [← L.agree t ht]
      split at h
      · rename_i ts hts
        (try rw [hts]); (try dsimp only)
        split at h
        · exact put L _ h
        · cases h
        · rename_i y hn1 hn2 hy
          have htb : Bs t := hB t (by
            simp only [effB, exB, hts, hy]
            cases y with
            | p v => exact absurd rfl (hn1 v)
            | _ => simp)
          obtain ⟨h1, L1⟩ := L.setT (y := .tup (ts.set i .dead)) ht htb hts
          obtain ⟨b4, h4, D⟩ := put L1 _ h
          refine ⟨b4, ?_, D⟩
          rw [← h4]
        · cases h
      · cases h
    | _ => cases h
  | makeInterface t x =>
    intro a2 h
    simp only [A.eff] at h ⊢
    have hoB : isOptB a x = isOptB b x := by
      unfold isOptB
      cases x with
      | tmp t0 => simp only; rw [L.agree t0 (hx (.tmp t0) (by simp [Op.operands]) t0 rfl)]
      | _ => rfl
    rw [← hoB]
    split at h
    · rename_i hc
      (try rw [if_pos hc])
      split at h
      · rename_i ho
        rw [if_pos ho]
        split at h
        · rename_i ty cs a3 h1
          obtain ⟨b3, h2, L3⟩ := L.tk (hx x (by simp [Op.operands])) hB _ _ h1
          rw [h2]; exact put L3 _ h
        · cases h
      · rename_i ho
        rw [if_neg ho]
        split at h
        · rename_i v a3 h1
          obtain ⟨b3, h2, L3⟩ := L.tkVT (hx x (by simp [Op.operands])) hB _ _ h1
          rw [h2]; exact put L3 _ h
        · cases h
    · cases h
  | convert s d x =>
    intro a2 h
    simp only [A.eff] at h ⊢
    rw [← L.pv (hx x (by simp [Op.operands]))]
    split at h
    · split at h
      · rename_i h1 h2
        (try rw [h1, h2]); (try dsimp only)
        split at h
        · rename_i hh; (try rw [if_pos hh]); exact put L _ h
        · cases h
      · cases h
    · split at h
      · rename_i hh
        (try rw [if_pos hh])
        split at h
        · rename_i he
          (try rw [he]); (try dsimp only)
          split at h
          · rename_i ty v es a3 h1
            obtain ⟨b3, h2, L3⟩ := L.tk (hx x (by simp [Op.operands])) hB _ _ h1
            rw [h2]; exact put L3 _ h
          · cases h
        · cases h
      · cases h
    · cases h
  | call c =>
    obtain ⟨callee, args, ts⟩ := c
    cases callee with
    | value f => simp [isCall] at hc
    | invoke r m => simp [isCall] at hc
    | builtin bi =>
      obtain ⟨args⟩ := args
      obtain ⟨ts⟩ := ts
      have hx' : ∀ x ∈ args, ∀ t, x = .tmp t → Rd t := fun x hm => hx x (by simp [Op.operands, Call.operands, hm])
      cases bi <;> try (intro a2 h; simp only [A.eff] at h; cases h; done)
      case append =>
        intro a2 h
        simp only [A.eff] at h ⊢
        split at h
        · rename_i x y t u
          split at h
          · by_cases hmv : (H.moves me dst && noInt P u) = true
            · rw [if_pos hmv] at h ⊢
              exact L.appendF (hx' x (by simp)) (hx' y (by simp)) hbs hd _ h
            · rw [if_neg hmv] at h ⊢
              exact L.append (hx' x (by simp)) (hx' y (by simp)) (fun k hk => hB k (by simpa [effB] using hk)) hbs hd _ h
          · cases h
        · cases h
      case copy =>
        intro a2 h
        simp only [A.eff] at h ⊢
        split at h
        · rename_i x y t u
          split at h
          · exact L.copy (hx' x (by simp)) (hx' y (by simp)) (fun s hs k hk => hB k (by simpa [effB] using rd_plX hs k hk)) hbs hd _ h
          · cases h
        · cases h
      case unsafeSliceData =>
        intro a2 h
        simp only [A.eff] at h ⊢
        split at h
        · rename_i x
          rw [← L.rd (hx' x (by simp))]
          split at h
          · rename_i p off ex hr
            have hp := L.roots (hx' x (by simp)) hr p.s (by simp [S.roots])
            (try rw [hr]); (try dsimp only)
            rw [← L.slAt hp]
            split at h
            · rename_i ty hz
              (try rw [hz]); (try dsimp only)
              split at h
              · rename_i hh; (try rw [if_pos hh]); exact put L _ h
              · cases h
            · cases h
          · cases h
        · cases h
      case unsafeString =>
        intro a2 h
        simp only [A.eff] at h ⊢
        split at h
        · rename_i x n pt u
          rw [← L.rd (hx' x (by simp)), ← L.pv (hx' n (by simp))]
          split at h
          · rename_i p n' hr hn
            have hp := L.roots (hx' x (by simp)) hr p.s (by simp [S.roots])
            have hpb : Bs p.s := hB p.s (by simpa [effB] using rd_plX hr p.s (by simp [S.roots]))
            (try rw [hr, hn]); (try dsimp only)
            rw [← L.slAt hp]
            split at h
            · rename_i ty es e hz hu
              (try rw [hz, hu]); (try dsimp only)
              split at h
              · rename_i hh
                (try rw [if_pos hh])
                split at h
                · rename_i l hl
                  split at h
                  · rename_i a3 h3
                    obtain ⟨b3, h4, L3⟩ := L.putN hp hpb h3
                    rw [h4]; exact put L3 _ h
                  · cases h
                · cases h
              · cases h
            · cases h
          · rename_i n' hr hn
            (try rw [hr, hn]); (try dsimp only)
            split at h
            · rename_i hh; (try rw [if_pos hh]); exact put L _ h
            · cases h
          · cases h
        · cases h
  | makeFunc fv first captured =>
    cases fv with
    | func f =>
      intro a2 h
      simp only [A.eff] at h ⊢
      split at h
      · rename_i t hf1 hc1
        (try rw [hf1, hc1]); (try dsimp only)
        have hm : Operand.tmp t ∈ captured := Array.mem_toList_iff.1 (by rw [hc1]; simp)
        have ht : Rd t := hx (.tmp t) (by simp [Op.operands, hm]) t rfl
        have htb : Bs t := hB t (by simp [effB, hc1, slotX])
        rw [← L.agree t ht]
        split at h
        · rename_i ty cs hs
          (try rw [hs]); (try dsimp only)
          split at h
          · rename_i ho
            (try rw [if_pos ho])
            split at h
            · rename_i a3 h3
              obtain ⟨b3, h4, L3⟩ := L.putN (p := ⟨t, []⟩) ht htb h3
              rw [h4]; exact put L3 _ h
            · cases h
          rename_i ho
          (try rw [if_neg ho])
          split at h
          · rename_i l hl
            (try rw [hl]); (try dsimp only)
            split at h
            · rename_i hst
              (try rw [if_pos hst])
              split at h
              · rename_i a3 h3
                obtain ⟨b3, h4, L3⟩ := L.putN (p := ⟨t, []⟩) ht htb h3
                rw [h4]; exact put L3 _ h
              · cases h
            · cases h
          · cases h
        · cases h
      · cases h
    | _ => intro a2 h; simp only [A.eff] at h; cases h
  | _ => intro a2 h; simp only [A.eff] at h; cases h
end
end Go.Proofs.Ytffofdfikmpanaa.A
namespace Go.Proofs.Ytffofdfikmpanaa.A
set_option linter.unusedVariables false
set_option linter.unusedSimpArgs false
section
variable {P : Program} {Rd Bs : Nat → Prop} {a b a' b' : List S} {sl : List S} {H : Hints}
theorem callB_cons {f : FuncId} {k : Nat} {x : Operand} {r : List Operand} {i : Nat} (h : i ∈ callB H f sl (k + 1) r) : i ∈ callB H f sl k (x :: r) := by
  simp only [callB, List.mem_append]; exact .inr h
theorem callB_self {f : FuncId} {k t : Nat} {r : List Operand} (hm : H.mode f k = 2 ∨ H.mode f k = 3) : t ∈ callB H f sl k (.tmp t :: r) := by
  simp only [callB, List.mem_append]
  left; left; rw [if_pos hm]; exact List.mem_singleton.2 rfl
theorem callB_tk {f : FuncId} {k t : Nat} {r : List Operand} {i : Nat} (hm : H.mode f k = 2 ∨ H.mode f k = 3) (h : i ∈ tkB sl (.tmp t)) : i ∈ callB H f sl k (.tmp t :: r) := by
  by_cases hit : i = t
  · subst hit; exact callB_self hm
  · simp only [tkB] at h
    cases hs : sl[t]? with
    | none => rw [hs] at h; exact absurd (List.mem_singleton.1 h) hit
    | some s =>
      rw [hs] at h
      cases s with
      | t x => cases x <;> first | exact absurd (List.mem_singleton.1 h) hit | cases h
      | bsl p off len ex =>
        simp only [callB, List.mem_append, hs]
        left; right
        dsimp only at h ⊢; rw [if_neg (by omega)]; exact h
      | bar p j sz len =>
        simp only [callB, List.mem_append, hs]
        left; right
        dsimp only at h ⊢; rw [if_neg (by omega)]; exact h
      | _ => exact absurd (List.mem_singleton.1 h) hit
theorem Loc.prepA {f : FuncId} : ∀ {args : List Operand} {k : Nat} {a' b' : List S}, Loc Rd Bs a b a' b' → (∀ x ∈ args, ∀ t, x = .tmp t → Rd t) → (∀ i ∈ callB H f a k args, Bs i) → ∀ a2, prepA P H f a' k args = some a2 → ∃ b2, A.prepA P H f b' k args = some b2 ∧ Loc Rd Bs a b a2 b2
  | [], k, a', b', L, _, _ => fun a2 h => by
    simp only [A.prepA, Option.some.injEq] at h ⊢; subst h; exact ⟨b', rfl, L⟩
  | x :: r, k, a', b', L, hx, hB => fun a2 h => by
    have ih : ∀ {a1 b1 : List S}, Loc Rd Bs a b a1 b1 → ∀ a2, A.prepA P H f a1 (k + 1) r = some a2 → ∃ b2, A.prepA P H f b1 (k + 1) r = some b2 ∧ Loc Rd Bs a b a2 b2 :=
      fun L1 => Loc.prepA L1 (fun y hy => hx y (List.mem_cons_of_mem _ hy)) fun i hi => hB i (callB_cons hi)
    simp only [A.prepA] at h ⊢
    cases x with
    | tmp t =>
      have ht := hx (.tmp t) (by simp) t rfl
      dsimp only at h ⊢
      by_cases h2 : H.mode f k = 2
      · rw [if_pos h2] at h ⊢
        have hb := fun i hi => hB i (callB_tk (.inl h2) hi)
        split at h
        · rename_i v a3 h3
          obtain ⟨b3, h4, L3⟩ := L.tkV (x := .tmp t) (fun u hu => by cases hu; exact ht) hb _ _ h3
          rw [h4]; dsimp only
          split at h
          · rename_i a4 h5
            obtain ⟨b4, h6, L4⟩ := L3.setD (hB t (callB_self (.inl h2))) h5
            rw [h6]; exact ih L4 _ h
          · cases h
        · cases h
      · rw [if_neg h2] at h ⊢
        by_cases h3 : H.mode f k = 3
        · rw [if_pos h3] at h ⊢
          have hb := fun i hi => hB i (callB_tk (.inr h3) hi)
          split at h
          · rename_i v a3 h3'
            obtain ⟨b3, h4, L3⟩ := L.tkO ht hb _ _ h3'
            rw [h4]; dsimp only
            split at h
            · rename_i a4 h5
              obtain ⟨b4, h6, L4⟩ := L3.setD (hB t (callB_self (.inr h3))) h5
              rw [h6]; exact ih L4 _ h
            · cases h
          · cases h
        · rw [if_neg h3] at h ⊢
          exact ih L _ h
    | _ => exact ih L _ h
theorem Loc.readA (L : Loc Rd Bs a b a' b') {ty : TypeId} {m : Nat} {x : Operand} (hx : ∀ t, x = .tmp t → Rd t) : readA P ty a' m x = readA P ty b' m x := by
  unfold A.readA
  cases hm : mvSlot m x with
  | some t =>
    have hxt : x = .tmp t := by
      unfold mvSlot at hm
      split at hm
      · split at hm
        · cases hm; rfl
        · cases hm
      · cases hm
    simp only [L.agree t (hx t hxt)]
  | none =>
    dsimp only
    rw [← L.rd hx]
    cases hr : A.rd a' x with
    | none => rfl
    | some s =>
      have hroots := L.roots hx hr
      cases s with
      | t y => cases y with
        | own ty es => cases es <;> rfl
        | _ => rfl
      | bpt p i j =>
        have := L.slAt (hroots p.s (by simp [S.roots]))
        match i, j with
        | 0, 0 =>
          show (match A.slAt a' p with | some (.opt ty cs) => (some ⟨.io (.opt ty cs) .pt, some p, none⟩ : Option Pass) | _ => none) = (match A.slAt b' p with | some (.opt ty cs) => (some ⟨.io (.opt ty cs) .pt, some p, none⟩ : Option Pass) | _ => none)
          rw [this]
        | 0, _ + 1 => rfl
        | _ + 1, _ => rfl
      | bsl p off len ex =>
        have := L.slAt (hroots p.s (by simp [S.roots]))
        show (match A.slAt a' p with | some (.own ty es) => (if m = 1 then some ⟨.io (.own ty es) (.sl off len), some p, none⟩ else some ⟨.v (.sl true false (P.cellsOf ty) ((es.drop off).take len)), none, some p.s⟩ : Option Pass) | _ => none) =
          (match A.slAt b' p with | some (.own ty es) => (if m = 1 then some ⟨.io (.own ty es) (.sl off len), some p, none⟩ else some ⟨.v (.sl true false (P.cellsOf ty) ((es.drop off).take len)), none, some p.s⟩ : Option Pass) | _ => none)
        rw [this]
      | bar p j sz len =>
        have := L.elemsS (P := P) hroots
        match sz with
        | 0 => rfl
        | 1 =>
          show (match A.elemsS P a' (.bar p j 1 len) with | some (sz, es) => (some ⟨.v (.sl true false sz es), none, some p.s⟩ : Option Pass) | none => none) = (match A.elemsS P b' (.bar p j 1 len) with | some (sz, es) => (some ⟨.v (.sl true false sz es), none, some p.s⟩ : Option Pass) | none => none)
          rw [this]
        | n + 2 => rfl
      | _ => rfl
theorem Loc.readAll (L : Loc Rd Bs a b a' b') {f : FuncId} : ∀ {args : List Operand} {k : Nat}, (∀ x ∈ args, ∀ t, x = .tmp t → Rd t) → readAll P H f a' k args = A.readAll P H f b' k args
  | [], k, _ => rfl
  | x :: r, k, hx => by
    simp only [A.readAll]
    rw [L.readA (hx x (by simp)), Loc.readAll L fun y hy => hx y (List.mem_cons_of_mem _ hy)]
theorem Loc.handB (L : Loc Rd Bs a b a' b') {f : FuncId} {k : Nat} {x : Operand} {r : List Operand} (hx : ∀ t, x = .tmp t → Rd t) (hB : ∀ i ∈ callB H f a k (x :: r), Bs i) {s : S} (h : A.rd a' x = some s)
    (hs : (∃ p i j, s = .bpt p i j) ∨ ((∃ p off len ex, s = .bsl p off len ex) ∧ H.mode f k ≠ 0)) : ∀ q ∈ s.roots, Bs q := by
  cases x with
  | tmp t =>
    simp only [A.rd] at h
    cases h0 : a'[t]? with
    | none => rw [h0] at h; cases h
    | some s0 =>
      rw [h0] at h; dsimp only at h
      have hs' : rdS t s0 = s := by cases h; rfl
      have was := L.was h0
      have own : ∀ y, s0 = .t y → y ≠ .dead → (∀ v, y ≠ .p v) → Bs t := by
        intro y hy hnd hnp
        rcases was with h1 | ⟨h1, _⟩ | h1
        · refine hB t ?_
          simp only [callB, List.mem_append, h1, hy]
          left; right
          cases y <;> first | exact List.mem_singleton.2 rfl | exact absurd rfl (hnp _)
        · exact h1
        · rw [hy] at h1; cases h1; exact absurd rfl hnd
      cases s0 with
      | t y =>
        cases y with
        | own ty es =>
          have := own _ rfl (by simp) (by simp)
          subst hs'; intro q hq; simp [rdS, S.roots] at hq; rw [hq]; exact this
        | opt ty cs =>
          have := own _ rfl (by simp) (by simp)
          subst hs'; intro q hq; simp [rdS, S.roots] at hq; rw [hq]; exact this
        | ifc u z =>
          cases z <;> subst hs' <;> first
            | (intro q hq; simp [rdS, S.roots] at hq; done)
            | (rcases hs with ⟨p, i, j, hh⟩ | ⟨⟨p, off, len, ex, hh⟩, _⟩ <;> simp [rdS] at hh)
        | _ => subst hs'; intro q hq; simp [rdS, S.roots] at hq
      | bpt p i j =>
        rcases was with h1 | ⟨_, y, h1⟩ | h1
        · subst hs'; intro q hq
          refine hB q ?_
          simp [rdS, S.roots] at hq
          simp only [callB, List.mem_append, h1]
          left; right; exact List.mem_singleton.2 hq
        · cases h1
        · cases h1
      | bsl p off len ex =>
        rcases was with h1 | ⟨_, y, h1⟩ | h1
        · subst hs'; intro q hq
          refine hB q ?_
          simp [rdS, S.roots] at hq
          simp only [callB, List.mem_append, h1]
          left; right
          rcases hs with ⟨p', i, j, hh⟩ | ⟨_, hm⟩
          · simp [rdS] at hh
          · rw [if_neg hm]; exact List.mem_singleton.2 hq
        · cases h1
        · cases h1
      | _ => subst hs'; rcases hs with ⟨p, i, j, hh⟩ | ⟨⟨p, off, len, ex, hh⟩, _⟩ <;> simp [rdS] at hh
  | const v =>
    simp only [A.rd] at h
    split at h
    · cases h; simp [S.roots]
    · cases h
  | func g => simp only [A.rd, Option.some.injEq] at h; subst h; simp [S.roots]
  | global g => simp [A.rd] at h
theorem Loc.hands (L : Loc Rd Bs a b a' b') {f : FuncId} : ∀ {args : List Operand} {k : Nat} {l : List Pass}, (∀ x ∈ args, ∀ t, x = .tmp t → Rd t) → (∀ i ∈ callB H f a k args, Bs i) → A.readAll P H f a' k args = some l → ∀ pa ∈ l, ∀ p, pa.hand = some p → Rd p.s ∧ Bs p.s
  | [], k, l, _, _, h => by simp only [A.readAll, Option.some.injEq] at h; subst h; simp
  | x :: r, k, l, hx, hB, h => by
    simp only [A.readAll] at h
    split at h
    · rename_i pa h1
      split at h
      · rename_i l' h2
        cases h
        intro pb hpb
        rcases List.mem_cons.1 hpb with rfl | hpb
        · intro p hp
          unfold A.readA at h1
          split at h1
          · rename_i t hm
            have : x = .tmp t ∧ H.mode f k = 3 := by
              unfold mvSlot at hm
              split at hm
              · rename_i h3
                split at hm
                · cases hm; exact ⟨rfl, h3⟩
                · cases hm
              · cases hm
            obtain ⟨rfl, h3⟩ := this
            split at h1
            · cases h1; cases hp
              exact ⟨hx _ (by simp) t rfl, hB t (callB_self (.inr h3))⟩
            · cases h1
          · split at h1
            · cases h1; cases hp
            · cases h1; cases hp
            · rename_i q hr
              split at h1
              · cases h1; cases hp
                exact ⟨L.roots (hx x (by simp)) hr _ (by simp [S.roots]), L.handB (hx x (by simp)) hB hr (.inl ⟨_, _, _, rfl⟩) _ (by simp [S.roots])⟩
              · cases h1
            · rename_i q off len ex hr
              split at h1
              · split at h1
                · rename_i hm
                  cases h1; cases hp
                  exact ⟨L.roots (hx x (by simp)) hr _ (by simp [S.roots]), L.handB (hx x (by simp)) hB hr (.inr ⟨⟨_, _, _, _, rfl⟩, by omega⟩) _ (by simp [S.roots])⟩
                · cases h1; cases hp
              · cases h1
            · split at h1
              · cases h1; cases hp
              · cases h1
            · cases h1
        · exact Loc.hands L (fun y hy => hx y (List.mem_cons_of_mem _ hy)) (fun i hi => hB i (callB_cons hi)) h2 pb hpb
      · cases h
    · cases h
theorem Loc.backs : ∀ {ps : List Pass} {xs : List T} {a' b' : List S}, Loc Rd Bs a b a' b' → (∀ pa ∈ ps, ∀ p, pa.hand = some p → Rd p.s ∧ Bs p.s) → ∀ a2, backs a' ps xs = some a2 → ∃ b2, A.backs b' ps xs = some b2 ∧ Loc Rd Bs a b a2 b2
  | [], [], a', b', L, _ => fun a2 h => by simp only [A.backs, Option.some.injEq] at h ⊢; subst h; exact ⟨b', rfl, L⟩
  | [], _ :: _, _, _, _, _ => fun a2 h => by simp [A.backs] at h
  | ⟨g, hd, lk⟩ :: ps, [], _, _, _, _ => fun a2 h => by cases g <;> cases hd <;> simp [A.backs] at h
  | ⟨g, hd, lk⟩ :: ps, x :: xs, a', b', L, hp => fun a2 h => by
    have ih : ∀ {a1 b1 : List S}, Loc Rd Bs a b a1 b1 → ∀ a2, A.backs a1 ps xs = some a2 → ∃ b2, A.backs b1 ps xs = some b2 ∧ Loc Rd Bs a b a2 b2 :=
      fun L1 => Loc.backs L1 fun pa hpa => hp pa (List.mem_cons_of_mem _ hpa)
    cases g with
    | v u => cases hd with
      | none => simp only [A.backs] at h ⊢; exact ih L _ h
      | some p => simp [A.backs] at h
    | mv u => cases hd with
      | none => simp [A.backs] at h
      | some p =>
        obtain ⟨h1, h2⟩ := hp _ List.mem_cons_self p rfl
        simp only [A.backs] at h ⊢
        split at h
        · rename_i a3 h3
          obtain ⟨b3, h4, L3⟩ := L.putN h1 h2 h3
          rw [h4]; exact ih L3 _ h
        · cases h
    | io u w => cases hd with
      | none => simp [A.backs] at h
      | some p =>
        obtain ⟨h1, h2⟩ := hp _ List.mem_cons_self p rfl
        simp only [A.backs] at h ⊢
        rw [← L.slAt h1]
        split at h
        · rename_i y hy
          split at h
          · rename_i hl
            try rw [if_pos hl]
            split at h
            · rename_i a3 h3
              obtain ⟨b3, h4, L3⟩ := L.putN h1 h2 h3
              rw [h4]; exact ih L3 _ h
            · cases h
          · cases h
        · cases h
theorem Loc.callPs {K : Oracle} (L : Loc Rd Bs a b a' b') {f : FuncId} {ps : List Pass} {dst : Option Nat} (hp : ∀ pa ∈ ps, ∀ p, pa.hand = some p → Rd p.s ∧ Bs p.s) (hbs : ∀ i, Bs i → Rd i ∨ dst = some i) (hd : ∀ d, dst = some d → Bs d) :
    DoneR Rd Bs a b (callPs P K a' f ps dst) (A.callPs P K b' f ps dst) := by
  intro a2 h
  unfold A.callPs at h ⊢
  split at h
  · rename_i hh
    rw [if_pos hh]
    split at h
    · rename_i r outs hk
      split at h
      · rename_i a3 h3
        obtain ⟨b3, h4, L3⟩ := L.backs hp _ h3
        try rw [hk]
        try dsimp only
        rw [h4]
        exact L3.putD hbs hd (by simp [S.roots]) h
      · cases h
    · cases h
  · cases h
theorem Loc.callOp {K : Oracle} (L : Loc Rd Bs a b a b) {f : FuncId} {args : List Operand} {more : List V} {dst : Option Nat} (hx : ∀ x ∈ args, ∀ t, x = .tmp t → Rd t) (hB : ∀ i ∈ callB H f a 0 args, Bs i)
    (hbs : ∀ i, Bs i → Rd i ∨ dst = some i) (hd : ∀ d, dst = some d → Bs d) : DoneR Rd Bs a b (callOp P K H a f args more dst) (A.callOp P K H b f args more dst) := by
  intro a2 h
  unfold A.callOp at h ⊢
  split at h
  · rename_i hs
    rw [if_pos hs]
    split at h
    · rename_i x
      rw [← L.rd (hx x (by simp))]
      split at h
      · rename_i hn0
        rw [if_pos hn0]
        split at h
        · rename_i v hr
          exact L.putD hbs hd (by simp [S.roots]) h
        · rename_i p i j hr
          exact L.putD hbs hd (L.roots (hx x (by simp)) hr) h
        · cases h
      · cases h
    · rename_i x y z
      rw [← L.rd (hx x (by simp)), ← L.rd (hx y (by simp)), ← L.rd (hx z (by simp))]
      split at h
      · split at h
        · split at h
          · split at h
            · rename_i r hr
              try rw [hr]
              exact L.putD hbs hd (by simp [S.roots]) h
            · cases h
          · cases h
        · cases h
      · cases h
    · cases h
  · rename_i hs
    rw [if_neg hs]
    split at h
    · rename_i a3 h3
      obtain ⟨b3, h4, L3⟩ := L.prepA hx hB _ h3
      rw [h4]; dsimp only
      rw [← L3.readAll hx]
      split at h
      · rename_i l hl
        refine L3.callPs ?_ hbs hd _ h
        intro pa hpa p hp
        rcases List.mem_append.1 hpa with hpa | hpa
        · exact L3.hands hx hB hl pa hpa p hp
        · obtain ⟨v, _, rfl⟩ := List.mem_map.1 hpa
          cases hp
      · cases h
    · cases h
theorem callB_X {f : FuncId} {sl : List S} : ∀ {args : List Operand} {k : Nat}, ∀ i ∈ callB H f sl k args, i ∈ callX sl args
  | [], k, i, h => by simp [callB] at h
  | x :: r, k, i, h => by
    simp only [callB, callX, List.mem_append] at h ⊢
    rcases h with h | h
    · left
      cases x with
      | tmp t =>
        simp only [List.mem_append] at h
        rcases h with h | h
        · split at h
          · simp at h; subst h; simp
          · simp at h
        · cases hs : sl[t]? with
          | none => rw [hs] at h; simp at h; simp [h]
          | some s =>
            rw [hs] at h
            simp only [hs]
            cases s with
            | t y => cases y <;> simp at h <;> simp [h]
            | bsl p off len ex => simp only at h; split at h <;> simp at h; simp [S.roots, h]
            | bar p off len ex => simp only at h; split at h <;> simp at h; simp [S.roots, h]
            | bpt p i' j => simp at h; simp [S.roots, h]
            | bfc u p => simp at h; simp [S.roots, h]
            | bfn f caps => simp at h; simp [h]
      | _ => simp at h
    · exact .inr (callB_X i h)
theorem Loc.callM {K : Oracle} (L : Loc Rd Bs a b a b) {t : Nat} {name : String} {args : List Operand} {dst : Option Nat} (ht : Rd t) (hx : ∀ x ∈ args, ∀ t, x = .tmp t → Rd t)
    (hB0 : ∀ s, a[t]? = some s → ∀ i ∈ s.roots, Bs i) (hB : ∀ i ∈ callX a args, Bs i)
    (hbs : ∀ i, Bs i → Rd i ∨ dst = some i) (hd : ∀ d, dst = some d → Bs d) : DoneR Rd Bs a b (callM P K H a t name args dst) (A.callM P K H b t name args dst) := by
  intro a2 h
  unfold A.callM at h ⊢
  rw [← L.agree t ht]
  split at h
  · rename_i u p hs
    try rw [hs]
    try dsimp only
    split at h
    · rename_i f hm
      try rw [hm]
      try dsimp only
      split at h
      · rename_i a3 h3
        obtain ⟨b3, h4, L3⟩ := L.prepA hx (fun i hi => hB i (callB_X i hi)) _ h3
        rw [h4]; dsimp only
        rw [← L3.readAll hx, ← L3.agree t ht]
        split at h
        · rename_i u' p' ty cs l hs1 hz h2
          split at h
          · rename_i he
            obtain ⟨rfl, rfl⟩ := he
            have hRp : Rd p'.s := L3.roots (x := .tmp t) (s := .bfc u' p') (fun t' h' => by cases h'; exact ht) (by simp [A.rd, hs1, rdS]) _ (by simp [S.roots])
            have hBp : Bs p'.s := hB0 _ hs _ (by simp [S.roots])
            have hz' : A.slAt b3 p'.down = some (.opt ty cs) := by rw [← L3.slAt (p := p'.down) hRp]; exact hz
            rw [hs1, hz', h2]
            dsimp only
            rw [if_pos ⟨rfl, rfl⟩]
            refine L3.callPs ?_ hbs hd _ h
            intro pa hpa q hq
            rcases List.mem_cons.1 hpa with rfl | hpa
            · cases hq; exact ⟨hRp, hBp⟩
            · exact L3.hands hx (fun i hi => hB i (callB_X i hi)) h2 pa hpa q hq
          · cases h
        · cases h
      · cases h
    · cases h
  · cases h
theorem Loc.effAll {K : Oracle} {me : FuncId} (L : Loc Rd Bs a b a b) {op : Op} {dst : Option Nat} (hx : Reads Rd op.operands.toList) (hB : ∀ k ∈ effB H a op, Bs k) (hbs : ∀ i, Bs i → Rd i ∨ dst = some i) (hd : ∀ d, dst = some d → Bs d) :
    DoneR Rd Bs a b (A.eff P K H me a dst op) (A.eff P K H me b dst op) := by
  cases hc : isCall op with
  | false => exact L.eff hx hB hbs hd hc
  | true =>
    cases op with
    | call c =>
      obtain ⟨callee, args, ts⟩ := c
      have hargs : ∀ x ∈ args.toList, ∀ t, x = .tmp t → Rd t := fun x hm => hx x (by
        have hx' : x ∈ args := Array.mem_toList_iff.1 hm
        cases callee <;> simp [Op.operands, Call.operands, hx'])
      cases callee with
      | builtin bi => simp [isCall] at hc
      | invoke r m =>
        cases r with
        | tmp t =>
          intro a2 h
          have ht : Rd t := hx (.tmp t) (by simp [Op.operands, Call.operands]) t rfl
          simp only [A.eff] at h ⊢
          exact L.callM ht hargs (fun s hs i hi => hB i (by simp only [effB, hs, List.mem_append]; exact .inl hi)) (fun i hi => hB i (by simp only [effB, List.mem_append]; exact .inr hi)) hbs hd _ h
        | _ => intro a2 h; simp only [A.eff] at h; cases h
      | value fv =>
        cases fv with
        | func f =>
          intro a2 h
          simp only [A.eff] at h ⊢
          exact L.callOp hargs (fun i hi => hB i (by simpa [effB] using hi)) hbs hd _ h
        | tmp t =>
          intro a2 h
          have ht : Rd t := hx (.tmp t) (by simp [Op.operands, Call.operands]) t rfl
          simp only [A.eff] at h ⊢
          rw [← L.agree t ht]
          split at h
          · rename_i sn f caps hs
            try rw [hs]
            exact L.callOp hargs (fun i hi => hB i (by simpa [effB, hs] using hi)) hbs hd _ h
          · cases h
        | _ => intro a2 h; simp only [A.eff] at h; cases h
    | _ => simp [isCall] at hc
end
end Go.Proofs.Ytffofdfikmpanaa.A
namespace Go.Proofs.Ytffofdfikmpanaa.A
set_option linter.unusedVariables false
set_option linter.unusedSimpArgs false
section
variable {P : Program} {K : Oracle} {H : Hints} {me : FuncId} {all : List Oper} {a b : List S}
theorem readSlot {x : Operand} {l : List Operand} (hm : x ∈ l) {sl : List S} {t : Nat} (hx : x = .tmp t) : t ∈ l.flatMap fun x => slotX x ++ rootsX sl x := by
  subst hx
  exact List.mem_flatMap.2 ⟨_, hm, List.mem_append_left _ (List.mem_singleton.2 rfl)⟩
theorem wantA_congr {o : Oper} (h : ∀ i ∈ guardS all o, a[i]? = b[i]?) : wantA all a o = wantA all b o := by
  unfold wantA
  unfold guardS at h
  cases hg : o.guard with
  | none => rfl
  | some jw =>
    obtain ⟨j, w⟩ := jw
    rw [hg] at h
    dsimp only at h ⊢
    cases hj : all[j]? with
    | none => rfl
    | some g =>
      rw [hj] at h
      dsimp only at h ⊢
      cases hd : g.dst with
      | none => rfl
      | some d =>
        rw [hd] at h
        dsimp only
        rw [h d (by simp)]
theorem rd_congr {x : Operand} (h : ∀ t, x = .tmp t → a[t]? = b[t]?) : rd a x = rd b x := by
  cases x with
  | tmp t => simp only [A.rd]; rw [h t rfl]
  | _ => rfl
theorem pv_congr {x : Operand} (h : ∀ t, x = .tmp t → a[t]? = b[t]?) : pv a x = pv b x := by
  simp only [A.pv]; rw [rd_congr h]
theorem rootsX_congr {x : Operand} (h : ∀ t, x = .tmp t → a[t]? = b[t]?) : rootsX a x = rootsX b x := by
  cases x with
  | tmp t => simp only [rootsX]; rw [h t rfl]
  | _ => rfl
theorem plX_congr {x : Operand} (h : ∀ t, x = .tmp t → a[t]? = b[t]?) : plX a x = plX b x := by
  cases x with
  | tmp t => simp only [plX]; rw [h t rfl]
  | _ => rfl
theorem tkB_congr {x : Operand} (h : ∀ t, x = .tmp t → a[t]? = b[t]?) : tkB a x = tkB b x := by
  cases x with
  | tmp t => simp only [tkB]; rw [h t rfl]
  | _ => rfl
theorem callB_congr {f : FuncId} : ∀ {args : List Operand} {k : Nat}, (∀ x ∈ args, ∀ t, x = .tmp t → a[t]? = b[t]?) → callB H f a k args = callB H f b k args
  | [], _, _ => rfl
  | x :: r, k, h => by
    simp only [callB]
    rw [callB_congr fun y hy => h y (List.mem_cons_of_mem _ hy)]
    cases x with
    | tmp t => simp only [h (.tmp t) (by simp) t rfl]
    | _ => rfl
theorem callX_congr : ∀ {args : List Operand}, (∀ x ∈ args, ∀ t, x = .tmp t → a[t]? = b[t]?) → callX a args = callX b args
  | [], _ => rfl
  | x :: r, h => by
    simp only [callX]
    rw [callX_congr fun y hy => h y (List.mem_cons_of_mem _ hy)]
    cases x with
    | tmp t => simp only [h (.tmp t) (by simp) t rfl]
    | _ => rfl
theorem flatMap_congr' {α β : Type} {l : List α} {f g : α → List β} (h : ∀ x ∈ l, f x = g x) : l.flatMap f = l.flatMap g := by
  induction l with
  | nil => rfl
  | cons x l ih => simp only [List.flatMap_cons]; rw [h x (by simp), ih fun y hy => h y (by simp [hy])]
theorem effB_congr {op : Op} (h : ∀ x ∈ op.operands.toList, ∀ t, x = .tmp t → a[t]? = b[t]?) : effB H a op = effB H b op := by
  cases op with
  | move x => exact tkB_congr (h x (by simp [Op.operands]))
  | assign x => exact tkB_congr (h x (by simp [Op.operands]))
  | box t x => exact tkB_congr (h x (by simp [Op.operands]))
  | makeInterface t x => exact tkB_congr (h x (by simp [Op.operands]))
  | convert t u x => exact tkB_congr (h x (by simp [Op.operands]))
  | store t x y => simp only [effB]; rw [plX_congr (h x (by simp [Op.operands])), tkB_congr (h y (by simp [Op.operands]))]
  | build t ps => exact flatMap_congr' fun p hp => tkB_congr (h p.2 (by simp [Op.operands]; exact ⟨_, by simpa using hp⟩))
  | buildSlice t n ps => exact flatMap_congr' fun p hp => tkB_congr (h p.2 (by simp [Op.operands]; exact ⟨_, by simpa using hp⟩))
  | load t x => exact plX_congr (h x (by simp [Op.operands]))
  | extract x i =>
    cases x with
    | tmp t => simp only [effB, exB]; rw [h (.tmp t) (by simp [Op.operands]) t rfl]
    | _ => rfl
  | makeFunc fv first captured => rfl
  | call c =>
    obtain ⟨callee, args, ts⟩ := c
    have hargs : ∀ x ∈ args.toList, ∀ t, x = .tmp t → a[t]? = b[t]? := fun x hm => h x (by
      have hx' : x ∈ args := Array.mem_toList_iff.1 hm
      cases callee <;> simp [Op.operands, Call.operands, hx'])
    cases callee with
    | builtin bi =>
      cases bi <;> try rfl
      all_goals
        simp only [effB]
        generalize args.toList = l at hargs
        cases l with
        | nil => rfl
        | cons x r => first | exact tkB_congr (hargs x (by simp)) | exact plX_congr (hargs x (by simp))
    | invoke r m =>
      cases r with
      | tmp t =>
        have ht := h (.tmp t) (by simp [Op.operands, Call.operands]) t rfl
        simp only [effB]
        rw [← ht, callX_congr hargs]
      | _ => rfl
    | value fv =>
      cases fv with
      | func f => simp only [effB]; exact callB_congr hargs
      | tmp t =>
        have ht := h (.tmp t) (by simp [Op.operands, Call.operands]) t rfl
        simp only [effB]
        rw [← ht]
        cases a[t]? with
        | none => rfl
        | some s => cases s with
          | t x => cases x with
            | p v => cases v <;> first | rfl | exact callB_congr hargs
            | _ => rfl
          | _ => rfl
      | _ => rfl
  | _ => rfl
theorem opReads_cases (sl : List S) (op : Op) : (∃ c x y, op = .pick c x y ∧ c ∈ opReads sl op ∧ (pv sl c = some (.bool true) → x ∈ opReads sl op) ∧ (pv sl c = some (.bool false) → y ∈ opReads sl op)) ∨ opReads sl op = op.operands.toList := by
  cases op with
  | pick c x y =>
    left
    refine ⟨c, x, y, rfl, ?_, ?_, ?_⟩
    · simp only [opReads]; split <;> simp
    · intro h; simp [opReads, h]
    · intro h; simp [opReads, h]
  | _ => right; rfl
theorem opReads_congr {op : Op} (h : ∀ x ∈ opReads a op, ∀ t, x = .tmp t → a[t]? = b[t]?) : opReads b op = opReads a op := by
  rcases opReads_cases a op with ⟨c, x, y, rfl, hc, _, _⟩ | he
  · have := pv_congr (h c hc)
    simp only [opReads, ← this]
  · cases op with
    | pick c x y =>
      have := pv_congr (h c (by rw [he]; simp [Op.operands]))
      simp only [opReads, ← this]
    | _ => rfl
theorem readsA_congr {o : Oper} (h : ∀ i ∈ readsA all a o, a[i]? = b[i]?) : readsA all b o = readsA all a o := by
  have h1 : ∀ x ∈ opReads a o.op, ∀ t, x = .tmp t → a[t]? = b[t]? := fun x hx t ht => h t (List.mem_append_left _ (readSlot hx ht))
  unfold readsA
  rw [opReads_congr h1, flatMap_congr' fun x hx => by rw [← rootsX_congr (h1 x hx)]]
variable {Rd Bs : Nat → Prop}
theorem Loc.look' (L : Loc Rd Bs a b a b) {op : Op} (hx : Reads Rd (opReads a op)) : A.lookA P a op = A.lookA P b op ∧ ∀ s, A.lookA P a op = some s → ∀ k ∈ s.roots, Rd k := by
  rcases opReads_cases a op with ⟨c, x, y, rfl, hc, h1, h2⟩ | he
  · have e := L.pv (hx c hc)
    constructor
    · simp only [A.lookA, ← e]
      cases hp : A.pv a c with
      | none => rfl
      | some v =>
        cases v <;> try rfl
        rename_i t
        cases t
        · simp only [L.pv (hx y (h2 hp)), Bool.false_eq_true, if_false]
        · simp only [L.pv (hx x (h1 hp)), if_true]
    · intro s hs
      simp only [A.lookA] at hs
      split at hs
      · split at hs
        · cases hs; simp [S.roots]
        · cases hs
      · cases hs
  · exact L.lookA (by rw [← he]; exact hx)
theorem pick_eff {c x y : Operand} {dst : Option Nat} : eff P K H me a dst (.pick c x y) = none := rfl
def readsR (all : List Oper) (sl : List S) (o : Oper) : List Nat := if wantA all sl o = some true then readsA all sl o else guardS all o
theorem guard_reads {o : Oper} {i : Nat} (h : i ∈ guardS all o) : i ∈ readsR all a o := by
  unfold readsR; split
  · exact List.mem_append_right _ h
  · exact h
theorem closedB_congr {l : List Nat} (h : ∀ i ∈ l, a[i]? = b[i]?) : closedB b l = closedB a l := by
  simp only [closedB]
  rw [Bool.eq_iff_iff, List.all_eq_true, List.all_eq_true]
  constructor
  · intro hh i hi; have := hh i hi; rw [h i hi]; exact this
  · intro hh i hi; have := hh i hi; rw [← h i hi]; exact this
theorem closedB_spec {l : List Nat} (h : closedB a l = true) {i : Nat} (hi : i ∈ l) : ∃ s, a[i]? = some s ∧ s ≠ .t .dead ∧ ∀ k ∈ s.roots, k ∈ l := by
  have := List.all_eq_true.1 h i hi
  split at this
  · cases this
  · rename_i s hne hs
    refine ⟨s, hs, fun e => ?_, fun k hk => ?_⟩
    · subst e; exact hne rfl
    · have := List.all_eq_true.1 this k hk
      simpa using this
  · cases this
def Near (o o2 : Option S) : Prop := o = o2 ∨ ∃ x y, o = some x ∧ o2 = some y ∧ x.flat = true ∧ y.flat = true
theorem stepR_loc {o : Oper} {r : Rec} {a2 : List S} (h : stepR P K H me all a o = some (r, a2)) (hag : ∀ i ∈ readsR all a o, a[i]? = b[i]?) (hnear : ∀ i, o.dst = some i → Near a[i]? b[i]?) :
    r.fp = readsR all a o ++ o.dst.toList ∧ (∀ i ∈ r.wr, i ∈ r.fp) ∧ (∀ i ∈ readsR all a o, ∃ s, a[i]? = some s ∧ s ≠ .t .dead ∧ ∀ k ∈ s.roots, k ∈ readsR all a o) ∧
      ∃ b2, stepR P K H me all b o = some (r, b2) ∧ Done (· ∈ readsR all a o) (· ∈ r.wr) a b a2 b2 := by
  have hw : wantA all a o = wantA all b o := wantA_congr fun i hi => hag i (guard_reads hi)
  unfold stepR at h ⊢
  rw [← hw]
  cases hwa : wantA all a o with
  | none => rw [hwa] at h; cases h
  | some t =>
    rw [hwa] at h
    cases t with
    | false =>
      dsimp only at h ⊢
      have hR : readsR all a o = guardS all o := by simp [readsR, hwa]
      split at h
      · rename_i a3 h3
        cases h
        have L : Loc (· ∈ readsR all a o) (· ∈ o.dst.toList) a b a b := Loc.start hag (fun i hi => hnear i (by cases hd : o.dst <;> simp [hd] at hi ⊢; exact hi.symm)) (fun i s hi hs k hk => by
          rw [hR] at hi
          unfold wantA at hwa
          unfold guardS at hi
          cases hg : o.guard with
          | none => rw [hg] at hi; cases hi
          | some jw =>
            obtain ⟨j, w⟩ := jw
            rw [hg] at hi hwa
            dsimp only at hi hwa
            cases hj : all[j]? with
            | none => rw [hj] at hi; cases hi
            | some g =>
              rw [hj] at hi hwa
              dsimp only at hi hwa
              cases hd : g.dst with
              | none => rw [hd] at hi; cases hi
              | some d =>
                rw [hd] at hi hwa
                simp at hi
                subst hi
                dsimp only at hwa
                rw [hs] at hwa
                cases s with
                | t x => simp [S.roots] at hk
                | _ => cases hwa)
        obtain ⟨b2, h1, D⟩ := L.putD (dst := o.dst) (s := .t (.tup [])) (fun i hi => .inr (by cases hd : o.dst <;> simp [hd] at hi ⊢; exact hi.symm)) (fun d hd => by simp [hd]) (by simp [S.roots]) h3
        refine ⟨by rw [hR], fun i hi => List.mem_append_right _ hi, fun i hi => ?_, b2, by rw [h1], D⟩
        rw [hR] at hi
        have hi' := hi
        unfold wantA at hwa
        unfold guardS at hi
        cases hg : o.guard with
        | none => rw [hg] at hi; cases hi
        | some jw =>
          obtain ⟨j, w⟩ := jw
          rw [hg] at hi hwa
          dsimp only at hi hwa
          cases hj : all[j]? with
          | none => rw [hj] at hi; cases hi
          | some g =>
            rw [hj] at hi hwa
            dsimp only at hi hwa
            cases hd : g.dst with
            | none => rw [hd] at hi; cases hi
            | some d =>
              rw [hd] at hi hwa
              simp at hi
              subst hi
              dsimp only at hwa
              cases hs : a[i]? with
              | none => rw [hs] at hwa; cases hwa
              | some s =>
                rw [hs] at hwa
                refine ⟨s, rfl, ?_, ?_⟩
                · rintro rfl; cases hwa
                · intro k hk
                  cases s with
                  | t x => simp [S.roots] at hk
                  | _ => cases hwa
      · cases h
    | true =>
      dsimp only at h ⊢
      have hR : readsR all a o = readsA all a o := by simp [readsR, hwa]
      rw [hR] at hag ⊢
      have hreads : readsA all b o = readsA all a o := readsA_congr hag
      split at h
      · rename_i hcl
        simp only [Bool.and_eq_true] at hcl
        obtain ⟨hcl, hin⟩ := hcl
        have hin' : ∀ i ∈ effW P H a o, i ∈ readsA all a o := fun i hi => by have := List.all_eq_true.1 hin i hi; simpa using this
        have hspec := fun i (hi : i ∈ readsA all a o) => closedB_spec hcl hi
        split at h
        · rename_i a3 h3
          cases h
          have L : Loc (· ∈ readsA all a o) (· ∈ o.dst.toList ++ effW P H a o) a b a b := Loc.start hag
            (fun i hi => by
              rcases List.mem_append.1 hi with hi | hi
              · exact hnear i (by cases hd : o.dst <;> simp [hd] at hi ⊢; exact hi.symm)
              · exact .inl (hag i (hin' i hi)))
            (fun i s hi hs k hk => by
              obtain ⟨s', h1, _, h2⟩ := hspec i hi
              rw [hs] at h1; cases h1
              exact h2 k hk)
          have hbs : ∀ i, i ∈ o.dst.toList ++ effW P H a o → i ∈ readsA all a o ∨ o.dst = some i := fun i hi => by
            rcases List.mem_append.1 hi with hi | hi
            · right; cases hd : o.dst <;> simp [hd] at hi ⊢; exact hi.symm
            · exact .inl (hin' i hi)
          have hd : ∀ d, o.dst = some d → d ∈ o.dst.toList ++ effW P H a o := fun d hd => by simp [hd]
          have hR1 : Reads (· ∈ readsA all a o) (opReads a o.op) := fun x hx t ht => List.mem_append_left _ (readSlot hx ht)
          obtain ⟨hl1, hl2⟩ := L.look' (P := P) hR1
          have heff : effW P H b o = effW P H a o := by
            unfold effW
            rw [← hl1]
            split
            · rfl
            · rename_i hns
              rcases opReads_cases a o.op with ⟨c, x, y, he, _⟩ | he
              · rw [he]; rfl
              · exact (effB_congr fun x hx t ht => hag t (List.mem_append_left _ (readSlot (by rw [he]; exact hx) ht))).symm
          rw [hreads, closedB_congr hag, heff, hcl, hin]
          have main : ∃ b2, stepA P K H me b o = some b2 ∧ Done (· ∈ readsA all a o) (· ∈ o.dst.toList ++ effW P H a o) a b a2 b2 := by
            unfold stepA at h3 ⊢
            cases hn : nilOp P o with
            | some y =>
              rw [hn] at h3
              exact L.putD hbs hd (by simp [S.roots]) h3
            | none =>
              rw [hn] at h3
              dsimp only at h3 ⊢
              rw [← hl1]
              cases hl : lookA P a o.op with
              | some s =>
                rw [hl] at h3
                exact L.putD hbs hd (hl2 s hl) h3
              | none =>
                rw [hl] at h3
                dsimp only at h3 ⊢
                rcases opReads_cases a o.op with ⟨c, x, y, he, _⟩ | he
                · rw [he] at h3; rw [pick_eff] at h3; cases h3
                · refine L.effAll (by rw [← he]; exact hR1) (fun k hk => ?_) hbs hd _ h3
                  refine List.mem_append_right _ ?_
                  unfold effW
                  rw [hn, hl]
                  exact hk
          obtain ⟨b2, h1, D⟩ := main
          refine ⟨rfl, fun i hi => ?_, hspec, b2, by simp [h1], D⟩
          rcases List.mem_append.1 hi with hi | hi
          · exact List.mem_append_right _ hi
          · exact List.mem_append_left _ (hin' i hi)
        · cases h
      · cases h
end
end Go.Proofs.Ytffofdfikmpanaa.A
namespace Go.Proofs.Ytffofdfikmpanaa.A
set_option linter.unusedVariables false
set_option linter.unusedSimpArgs false
section
variable {P : Program} {K : Oracle} {H : Hints} {me : FuncId} {all : List Oper} {a b : List S}
theorem meets_no {l m : List Nat} (h : meets l m = false) {i : Nat} (h1 : i ∈ l) (h2 : i ∈ m) : False := by
  unfold meets at h
  rw [List.any_eq_false] at h
  exact h i h1 (by simpa using h2)
theorem killBy_roots_id {s : S} {kp : Pl → Bool} (h : ∀ q, kp q = false → q.s ∉ s.roots) : S.killBy kp s = s := by
  have one : ∀ q : Pl, q.s ∈ s.roots → kp q = true := fun q hq => by
    cases hk : kp q
    · exact absurd hq (h q hk)
    · rfl
  cases s with
  | t x => rfl
  | bsl p off len ex => simp only [S.killBy, one p (by simp [S.roots]), if_true]
  | bpt p i j => simp only [S.killBy, one p (by simp [S.roots]), if_true]
  | bar p j sz len => simp only [S.killBy, one p (by simp [S.roots]), if_true]
  | bfc u p => simp only [S.killBy, one p (by simp [S.roots]), if_true]
  | bfn f caps =>
    simp only [S.killBy]
    rw [if_pos]
    rw [List.all_eq_true]
    exact fun q hq => one q (by simp only [S.roots, List.mem_map]; exact ⟨q, hq, rfl⟩)
theorem near_kill {s s2 : Option S} {kp : Pl → Bool} (h : s2 = s.map (S.killBy kp)) (hx : s ≠ none) : Near s s2 := by
  cases s with
  | none => exact absurd rfl hx
  | some x =>
    subst h
    cases x with
    | t y => exact .inl rfl
    | _ =>
      simp only [Option.map_some, S.killBy]
      split
      · exact .inl rfl
      · exact .inr ⟨_, _, rfl, rfl, rfl, rfl⟩
theorem Near.symm {s s2 : Option S} (h : Near s s2) : Near s2 s := by
  rcases h with h | ⟨x, y, h1, h2, h3, h4⟩
  · exact .inl h.symm
  · exact .inr ⟨y, x, h2, h1, h4, h3⟩
theorem near_none {s s2 : Option S} {kp : Pl → Bool} (h : s2 = s.map (S.killBy kp)) : Near s s2 := by
  cases hs : s with
  | none => subst hs; subst h; exact .inl rfl
  | some x => rw [← hs]; exact near_kill h (by rw [hs]; simp)
theorem stepR_fp {o : Oper} {r : Rec} {a2 : List S} (h : stepR P K H me all a o = some (r, a2)) : r.fp = readsR all a o ++ o.dst.toList := (stepR_loc (b := a) h (fun _ _ => rfl) fun _ _ => .inl rfl).1
theorem stepR_cl {o : Oper} {r : Rec} {a2 : List S} (h : stepR P K H me all a o = some (r, a2)) : ∀ i ∈ readsR all a o, ∃ s, a[i]? = some s ∧ s ≠ .t .dead ∧ ∀ k ∈ s.roots, k ∈ readsR all a o := (stepR_loc (b := a) h (fun _ _ => rfl) fun _ _ => .inl rfl).2.2.1
theorem swap_steps {x y : Oper} {rx ry : Rec} {a1 a2 : List S} (hx : stepR P K H me all a x = some (rx, a1)) (hy : stepR P K H me all a1 y = some (ry, a2)) (hi : indep rx ry = true) :
    ∃ b1, stepR P K H me all a y = some (ry, b1) ∧ stepR P K H me all b1 x = some (rx, a2) := by
  simp only [indep, Bool.and_eq_true, Bool.not_eq_true'] at hi
  obtain ⟨hxy, hyx⟩ := hi
  -- x on its own frame
  obtain ⟨fx, wx, cx, ax, hax, Dx⟩ := stepR_loc (b := a) hx (fun _ _ => rfl) fun _ _ => .inl rfl
  rw [hx] at hax; cases hax
  obtain ⟨k0, k0a, k0b⟩ := Dx.kp
  -- y from a1 to a
  obtain ⟨fy, wy, cy, b1, hb1, Dy⟩ := stepR_loc (b := a) hy
    (fun i hi => by
      have hni : ¬ i ∈ rx.wr := fun h => meets_no hxy h (by rw [stepR_fp hy]; exact List.mem_append_left _ hi)
      have := (k0b i hni).1
      obtain ⟨s, hs, hd, _⟩ := stepR_cl hy i hi
      rw [this] at hs ⊢
      cases h0 : a[i]? with
      | none => rw [h0] at hs; cases hs
      | some s0 =>
        rw [h0] at hs
        simp only [Option.map_some, Option.some.injEq] at hs ⊢
        subst hs
        rcases killBy_orig (s := s0) (kp := k0) with ⟨t, ht⟩ | ht
        · cases s0 with
          | t z => rfl
          | _ =>
            simp only [S.killBy] at ht hd ⊢
            split
            · rfl
            · rename_i hk; rw [if_neg hk] at hd; exact absurd rfl hd
        · exact ht)
    (fun i hi => by
      have hni : ¬ i ∈ rx.wr := fun h => meets_no hxy h (by rw [stepR_fp hy]; exact List.mem_append_right _ (by rw [hi]; simp))
      exact (near_none (k0b i hni).1).symm)
  obtain ⟨k1, k1a, k1b⟩ := Dy.kp
  -- x from a to b1
  have hxn : ∀ i, i ∈ rx.fp → ¬ i ∈ ry.wr := fun i hi h => meets_no hyx h hi
  obtain ⟨_, _, _, b2, hb2, Dz⟩ := stepR_loc (b := b1) hx
    (fun i hi => by
      have hni := hxn i (by rw [fx]; exact List.mem_append_left _ hi)
      rw [(k1b i hni).2]
      obtain ⟨s, hs, _, hr⟩ := cx i hi
      rw [hs]
      simp only [Option.map_some, Option.some.injEq]
      exact (killBy_roots_id fun q hq hqr => hxn q.s (by rw [fx]; exact List.mem_append_left _ (hr q.s hqr)) (k1a q hq)).symm)
    (fun i hi => by
      have hni := hxn i (by rw [fx]; exact List.mem_append_right _ (by rw [hi]; simp))
      exact near_none (k1b i hni).2)
  obtain ⟨k2, k2a, k2b⟩ := Dz.kp
  refine ⟨b1, hb1, ?_⟩
  have : b2 = a2 := by
    apply List.ext_getElem?
    intro i
    by_cases h1 : i ∈ rx.wr
    · have hny : ¬ i ∈ ry.wr := hxn i (wx i h1)
      rw [← Dz.same i h1, (k1b i hny).1]
      cases hs : a1[i]? with
      | none => rfl
      | some s =>
        simp only [Option.map_some, Option.some.injEq]
        exact (killBy_roots_id fun q hq hqr => hxn q.s (by rw [fx]; exact List.mem_append_left _ (Dx.clos i s h1 hs q.s hqr)) (k1a q hq)).symm
    · rw [(k2b i h1).2]
      by_cases h2 : i ∈ ry.wr
      · rw [← Dy.same i h2]
        cases hs : a2[i]? with
        | none => rfl
        | some s =>
          simp only [Option.map_some, Option.some.injEq]
          exact killBy_roots_id fun q hq hqr => meets_no hxy (k2a q hq) (by rw [fy]; exact List.mem_append_left _ (Dy.clos i s h2 hs q.s hqr))
      · rw [(k1b i h2).1, (k1b i h2).2, (k2b i h1).1]
        cases a[i]? with
        | none => rfl
        | some s =>
          simp only [Option.map_some, Option.some.injEq, killBy_and]
          congr 1
          funext q
          exact Bool.and_comm _ _
  rw [← this]; exact hb2
theorem bubble {i : Nat} {o : Oper} (ho : all[i]? = some o) : ∀ {l1 l2 : List Nat} {a a' : List S} {recs : List Rec}, runR P K H me all (l1 ++ i :: l2) a = some (recs, a') →
    (∀ k, k < l1.length → indep (recs.getD k default) (recs.getD l1.length default) = true) →
    ∃ b, stepR P K H me all a o = some (recs.getD l1.length default, b) ∧ runR P K H me all (l1 ++ l2) b = some (recs.take l1.length ++ recs.drop (l1.length + 1), a')
  | [], l2, a, a', recs, h, _ => by
    simp only [List.nil_append, runR, ho] at h
    split at h
    · rename_i x s1 h1
      split at h
      · rename_i l s2 h2
        cases h
        exact ⟨s1, by simpa using h1, by simpa using h2⟩
      · cases h
    · cases h
  | j :: l1, l2, a, a', recs, h, hi => by
    simp only [List.cons_append, runR] at h
    split at h
    · rename_i oj hoj
      split at h
      · rename_i x s1 h1
        split at h
        · rename_i l s2 h2
          cases h
          obtain ⟨b, hb1, hb2⟩ := bubble ho h2 fun k hk => by
            have := hi (k + 1) (by simp; omega)
            simpa using this
          have hind := hi 0 (by simp)
          simp only [List.length_cons, List.getD_cons_zero, List.getD_cons_succ] at hind
          obtain ⟨c, hc1, hc2⟩ := swap_steps h1 hb1 hind
          refine ⟨c, by simpa using hc1, ?_⟩
          simp only [List.cons_append, runR, hoj, hc2, hb2, List.length_cons, List.take_succ_cons, List.drop_succ_cons]
        · cases h
      · cases h
    · cases h
end
end Go.Proofs.Ytffofdfikmpanaa.A
namespace Go.Proofs.Ytffofdfikmpanaa.A
set_option linter.unusedVariables false
set_option linter.unusedSimpArgs false
structure CellsStay (w w' : World) : Prop where
  size : w.heap.size ≤ w'.heap.size
  cells : ∀ (b : Nat) (vs : Array Value) (ty : TypeId) (fz : Nat × Nat), w.heap[b]? = some (.cells vs ty fz) → w'.heap[b]? = some (.cells vs ty fz)
theorem CellsStay.cell {w w' : World} (h : CellsStay w w') {a : Addr} {c : Value} (hc : w.cell? a = some c) : w'.cell? a = some c := by
  unfold World.cell? at hc ⊢
  split at hc
  · rename_i vs ty fz hb
    rw [h.cells _ _ _ _ hb]; exact hc
  · cases hc
section
variable {P : Program}
theorem PRep.others {w w' : World} {Zs Zx Zs' Zx' : Nat → Prop} {v : V} {c : Value} (h : PRep w Zs Zx v c) (hw : CellsStay w w')
    (hs : ∀ b, Zs b → Zs' b) (hx : ∀ b, Zx b → Zx' b) : PRep w' Zs' Zx' v c := by
  induction h generalizing Zs' Zx' with
  | bool b => exact .bool b
  | int k n => exact .int k n
  | str s => exact .str s
  | nilp => exact .nilp
  | anyp a => exact .anyp a
  | nilf => exact .nilf
  | nili => exact .nili
  | lenO n a cap => exact .lenO n a cap
  | agg cs vs hl h1 h ih => exact .agg cs vs hl h1 fun i v c h1 h2 => ih i v c h1 h2 hs hx
  | sl0 snap exact sz a cap he => exact .sl0 snap exact sz a cap he
  | @sl Zx snap exact sz es b off cap he hc hz hcl h1 hd h ih =>
    refine .sl snap exact sz es b off cap he hc ?_ hcl h1 (fun i j e v k1 k2 => ?_) fun i j e v c k1 k2 h3 => ?_
    · cases snap; exact hs _ hz; exact hx _ hz
    · obtain ⟨c0, hc0⟩ := hd i j e v k1 k2
      exact ⟨c0, hw.cell hc0⟩
    · obtain ⟨c0, hc0⟩ := hd i j e v k1 k2
      rw [hw.cell hc0] at h3
      cases h3
      exact ih i j e v _ k1 k2 hc0 hs hs
  | @ref Zx snap cs b off hz h1 hd h ih =>
    refine .ref snap cs b off ?_ h1 (fun j v k1 => ?_) fun j v c k1 h2 => ?_
    · cases snap; exact hs _ hz; exact hx _ hz
    · obtain ⟨c0, hc0⟩ := hd j v k1
      exact ⟨c0, hw.cell hc0⟩
    · obtain ⟨c0, hc0⟩ := hd j v k1
      rw [hw.cell hc0] at h2
      cases h2
      cases snap
      · exact ih j v _ k1 hc0 hs hs
      · exact ih j v _ k1 hc0 hs hx
  | @fn Zx snap f caps vs hl h ih =>
    refine .fn snap f caps vs hl fun i v c h1 h2 => ?_
    cases snap
    · exact ih i v c h1 h2 hs hs
    · exact ih i v c h1 h2 hs hx
  | ifc t v c h ih => exact .ifc t v c (ih hs hx)
theorem TRep.others {w w' : World} {Zs Zx Zs' Zx' : Nat → Prop} {me : Option Nat} {x : T} {c : Value} {F : Nat → Prop} (h : TRep P w Zs Zx me x c F) (hw : CellsStay w w')
    (hs : ∀ b, Zs b → Zs' b) (hx : ∀ b, Zx b → Zx' b) : TRep P w' Zs' Zx' me x c F := by
  induction h with
  | p me v c F h hF => exact .p me v c F (h.others hw hs hx) hF
  | own0 me ty ad F hF hn => exact .own0 me ty ad F hF hn
  | own me ty es b off cap vs fz F hw0 hc hsz hpos hfz hcl h1 h hF =>
    exact .own me ty es b off cap vs fz F (hw.cells _ _ _ _ hw0) hc hsz hpos hfz hcl h1 (fun i j e v c k1 h2 h3 => (h i j e v c k1 h2 h3).others hw hs hs) hF
  | opt me ty cs b vs F G hw0 hl h1 h hF hb hd ih =>
    exact .opt me ty cs b vs F G (hw.cells _ _ _ _ hw0) hl h1 (fun i t c k1 h2 => ih i t c k1 h2) hF hb hd
  | self b F hF => exact .self b F hF
  | tup me cs vs F G hl h hF hd ih => exact .tup me cs vs F G hl (fun i t c h1 h2 => ih i t c h1 h2) hF hd
  | agg me cs vs F G hl h1 h hF hd ih => exact .agg me cs vs F G hl h1 (fun i t c k1 h2 => ih i t c k1 h2) hF hd
  | ifc me t x c F h ih => exact .ifc me t x c F ih
  | clo me f x c F h ih => exact .clo me f x c F ih
  | dead me c F hF => exact .dead me c F hF
theorem cAt_others {w w' : World} (hw : CellsStay w w') : ∀ (r : List Nat) {c d : Value}, cAt w c r = some d → cAt w' c r = some d
  | [], c, d, h => by simpa [cAt] using h
  | j :: r, c, d, h => by
    unfold cAt at h ⊢
    split at h
    · rename_i heq; cases heq
    · rename_i a j' r' heq
      cases heq
      split at h
      · rename_i c' hc'
        simp only [hw.cell hc']
        exact cAt_others hw r h
      · cases h
    · rename_i heq
      cases heq
      exact cAt_others hw _ h
    · cases h
theorem cvAt_others {w w' : World} (hw : CellsStay w w') {cv : List Value} {p : Pl} {d : Value} (h : cvAt w cv p = some d) : cvAt w' cv p = some d := by
  unfold cvAt at h ⊢
  split at h
  · exact cAt_others hw _ h
  · cases h
theorem SRep.others {w w' : World} {Zs Zx Zs' Zx' : Nat → Prop} {sl : List S} {cv : List Value} {s : S} {c : Value} {F : Nat → Prop} (h : SRep P w Zs Zx sl cv s c F) (hw : CellsStay w w')
    (hs : ∀ b, Zs b → Zs' b) (hx : ∀ b, Zx b → Zx' b) : SRep P w' Zs' Zx' sl cv s c F := by
  cases s with
  | t x => exact TRep.others h hw hs hx
  | bfn f caps =>
    obtain ⟨h1, vs, h2, h3, h4⟩ := h
    exact ⟨h1, vs, h2, h3, fun i p v k1 k2 => by obtain ⟨z, cz, g1, g2, g3⟩ := h4 i p v k1 k2; exact ⟨z, cz, g1, cvAt_others hw g2, g3⟩⟩
  | bsl p o l e => obtain ⟨h1, p, z, cz, h2, h3, h4, h5⟩ := h; exact ⟨h1, p, z, cz, h2, h3, cvAt_others hw h4, h5⟩
  | bpt p i j => obtain ⟨h1, p, z, cz, h2, h3, h4, h5⟩ := h; exact ⟨h1, p, z, cz, h2, h3, cvAt_others hw h4, h5⟩
  | bar p j sz l => obtain ⟨h1, p, z, cz, h2, h3, h4, h5⟩ := h; exact ⟨h1, p, z, cz, h2, h3, cvAt_others hw h4, h5⟩
  | bfc t p => obtain ⟨h1, p, z, cz, h2, h3, h4, h5⟩ := h; exact ⟨h1, p, z, cz, h2, h3, cvAt_others hw h4, h5⟩
theorem Rel.others {w w' : World} {X X' : Nat → Prop} {sl : List S} {cv : List Value} {F : Nat → Nat → Prop} (R : Rel P w X sl cv F) (hw : CellsStay w w')
    (hX : ∀ b, X' b → X b ∨ w.heap.size ≤ b) (hX2 : ∀ b, X' b → b < w'.heap.size) : Rel P w' X' sl cv F where
  len := R.len
  lt := fun i b h => Nat.lt_of_lt_of_le (R.lt i b h) hw.size
  disj := R.disj
  apart := fun i b h hx => (hX b hx).elim (R.apart i b h) fun hh => by have := R.lt i b h; omega
  xlt := hX2
  slot := fun i s c h1 h2 => (R.slot i s c h1 h2).others hw (fun b hb => ⟨⟨Nat.lt_of_lt_of_le hb.1.1 hw.size, hb.1.2⟩, fun hx => (hX b hx).elim hb.2 fun hh => by have := hb.1.1; omega⟩)
    fun b hb => ⟨Nat.lt_of_lt_of_le hb.1 hw.size, hb.2⟩
theorem Rel.turn {w w' : World} {X : Nat → Prop} {sl : List S} {cv : List Value} {F : Nat → Nat → Prop} (R : Rel P w X sl cv F) (hs : sl.all S.still = true) (hw : w.heap.size ≤ w'.heap.size)
    (hb : ∀ b, b < w.heap.size → ¬ X b → w'.heap[b]? = w.heap[b]?) : Rel P w' X sl cv F where
  len := R.len
  lt := fun i b h => Nat.lt_of_lt_of_le (R.lt i b h) hw
  disj := R.disj
  apart := R.apart
  xlt := fun b h => Nat.lt_of_lt_of_le (R.xlt b h) hw
  slot := fun i s c h1 h2 => by
    have hst := List.all_eq_true.1 hs s (List.mem_of_getElem? h1)
    have hr := R.slot i s c h1 h2
    cases s with
    | t x =>
      by_cases hd : x = .dead
      · subst hd
        cases hr with
        | dead me c F hF => exact .dead none c _ hF
      · have hx : x.stab = true := by cases x <;> first | exact absurd rfl hd | exact hst
        have h3 : TRep P w (zs w X F) (zs w X F) none x c (F i) := TRep.stay hr (fun _ h => h) hx
        refine h3.mono (fun _ h => h) (fun b hb => ⟨⟨Nat.lt_of_lt_of_le hb.1.1 hw, hb.1.2⟩, hb.2⟩) (fun b hb => ⟨Nat.lt_of_lt_of_le hb.1.1 hw, hb.1.2⟩) fun b hb' => ?_
        rcases hb' with h | h
        · exact hb b (R.lt i b h) (R.apart i b h)
        · exact hb b h.1.1 h.2
    | _ => cases hst
theorem Rel.less {w : World} {X X' : Nat → Prop} {sl : List S} {cv : List Value} {F : Nat → Nat → Prop} (R : Rel P w X sl cv F) (hX : ∀ b, X' b → X b) : Rel P w X' sl cv F where
  len := R.len
  lt := R.lt
  disj := R.disj
  apart := fun i b h hx => R.apart i b h (hX b hx)
  xlt := fun b hb => R.xlt b (hX b hb)
  slot := fun i s c h1 h2 => (R.slot i s c h1 h2).others ⟨Nat.le_refl _, fun _ _ _ _ h => h⟩ (fun b hb => ⟨hb.1, fun hx => hb.2 (hX b hx)⟩) fun b hb => hb
theorem Rel.deads {w : World} {X : Nat → Prop} {sl : List S} {cv cv' : List Value} {F : Nat → Nat → Prop} (R : Rel P w X sl cv F) (hl : cv'.length = cv.length) (h : ∀ i : Nat, sl[i]? = some (S.t T.dead) ∨ cv'[i]? = cv[i]?) : Rel P w X sl cv' F where
  len := R.len.trans hl.symm
  lt := R.lt
  disj := R.disj
  apart := R.apart
  xlt := R.xlt
  slot := fun i s c h1 h2 => by
    have hcv : ∀ {p : Pl} {z : T} {cz : Value} {s' : S} {c' : Value}, slAt sl p = some z → cvAt w cv p = some cz → BRep P z cz s' c' → cvAt w cv' p = some cz := by
      intro p z cz s' c' g1 g2 g3
      rcases h p.s with hd | hd
      · exfalso
        unfold slAt at g1
        rw [hd] at g1
        simp only at g1
        cases hp : p.path with
        | nil => rw [hp] at g1; simp only [T.at, Option.some.injEq] at g1; subst g1; cases s' <;> simp [BRep] at g3
        | cons j r => rw [hp] at g1; simp [T.at, T.kids] at g1
      · unfold cvAt at g2 ⊢
        rw [hd]; exact g2
    rcases h i with hd | hd
    · rw [hd] at h1; cases h1
      have hdd : i < cv.length := by rw [← R.len]; exact (List.getElem?_eq_some_iff.1 hd).1
      have := R.slot i _ _ hd (List.getElem?_eq_getElem hdd)
      cases this with
      | dead me c F hF => exact .dead none c _ hF
    · rw [hd] at h2
      have hs := R.slot i s c h1 h2
      cases s with
      | t x => exact hs
      | bfn f caps =>
        obtain ⟨k1, vs, k2, k3, k4⟩ := hs
        exact ⟨k1, vs, k2, k3, fun i p v j1 j2 => by obtain ⟨z, cz, g1, g2, g3⟩ := k4 i p v j1 j2; exact ⟨z, cz, g1, hcv g1 g2 g3, g3⟩⟩
      | bsl p o l e => obtain ⟨k1, p, z, cz, k2, k3, k4, k5⟩ := hs; exact ⟨k1, p, z, cz, k2, k3, hcv k3 k4 k5, k5⟩
      | bpt p i j => obtain ⟨k1, p, z, cz, k2, k3, k4, k5⟩ := hs; exact ⟨k1, p, z, cz, k2, k3, hcv k3 k4 k5, k5⟩
      | bar p j sz l => obtain ⟨k1, p, z, cz, k2, k3, k4, k5⟩ := hs; exact ⟨k1, p, z, cz, k2, k3, hcv k3 k4 k5, k5⟩
      | bfc t p => obtain ⟨k1, p, z, cz, k2, k3, k4, k5⟩ := hs; exact ⟨k1, p, z, cz, k2, k3, hcv k3 k4 k5, k5⟩
theorem setD_self {sl : List S} {d : Nat} {s : S} {sl' : List S} (h : setD sl d s = some sl') : sl'[d]? = some s := by
  unfold setD at h
  cases ho : sl[d]? with
  | none => rw [ho] at h; cases h
  | some o =>
    have hd : d < sl.length := (List.getElem?_eq_some_iff.1 ho).1
    rw [ho] at h; dsimp only at h
    split at h
    · cases h
      split
      · exact List.getElem?_set_self hd
      · exact List.getElem?_set_self (by simpa [killP] using hd)
    · cases h
theorem setD_dead {sl : List S} {d i : Nat} {s : S} {sl' : List S} (h : setD sl d s = some sl') (hi : i ≠ d) (hs : sl[i]? = some (.t .dead)) : sl'[i]? = some (.t .dead) := by
  unfold setD at h
  split at h
  · cases h
  · split at h
    · cases h
      split
      · rw [List.getElem?_set_ne (Ne.symm hi)]; exact hs
      · rw [List.getElem?_set_ne (Ne.symm hi)]; simp [killP, hs, S.kill]
    · cases h
theorem fixS_keep : ∀ {l : List (Nat × Bool)} {sl sl' : List S} {i : Nat}, (∀ x ∈ l, x.2 = false) → fixS P l sl = some sl' → sl[i]? = some (.t .dead) → sl'[i]? = some (.t .dead)
  | [], sl, sl', i, _, h, hs => by simp only [fixS, Option.some.injEq] at h; subst h; exact hs
  | (d, true) :: l, sl, sl', i, hf, h, hs => by have := hf (d, true) (by simp); cases this
  | (d, false) :: l, sl, sl', i, hf, h, hs => by
    simp only [fixS] at h
    split at h
    · rename_i s1 h1
      refine fixS_keep (fun x hx => hf x (List.mem_cons_of_mem _ hx)) h ?_
      by_cases hid : i = d
      · subst hid; exact setD_self h1
      · exact setD_dead h1 hid hs
    · cases h
theorem fixS_dead : ∀ {l : List (Nat × Bool)} {sl sl' : List S} {i : Nat}, (∀ x ∈ l, x.2 = false) → fixS P l sl = some sl' → (i, false) ∈ l → sl'[i]? = some (.t .dead)
  | [], sl, sl', i, _, _, hm => by cases hm
  | (d, true) :: l, sl, sl', i, hf, h, hm => by have := hf (d, true) (by simp); cases this
  | (d, false) :: l, sl, sl', i, hf, h, hm => by
    simp only [fixS] at h
    split at h
    · rename_i s1 h1
      have hf' : ∀ x ∈ l, x.2 = false := fun x hx => hf x (List.mem_cons_of_mem _ hx)
      rcases List.mem_cons.1 hm with he | hm
      · cases he
        exact fixS_keep hf' h (setD_self h1)
      · exact fixS_dead hf' h hm
    · cases h
def FR (r : Option Nat) : Fence := { Fence.wide with round := r }
theorem callsIn_FR {r : Option Nat} {n : Nat} {f : FuncId} {args : Array Value} {w : World} {R : Ending → World → Prop} (h : Calls P f args w R) : CallsIn (FR r) n P f args w R :=
  (callsIn_wide (n := n)).2 h
theorem run_wpIn {r : Option Nat} {n : Nat} {o : Oper} {a : Act} {w : World} {next : Act → World → Prop} {Q : Exit → Act → World → Prop} (hd : ∀ c, o.op ≠ .defer c)
    (h : (∃ c w', (execOp a.eval o).run P w = .ok (.value c) w' ∧ next (a.put o.dst c) w') ∨ (∃ w', (execOp a.eval o).run P w = .ok .skip w' ∧ next (a.put o.dst undef) w') ∨
      (∃ f args w', (execOp a.eval o).run P w = .ok (.enter f args) w' ∧ Calls P f args w' fun e w'' => ∃ v, e = .returned v ∧ next (a.put o.dst v) w'')) : o.wpIn (FR r) n P a w next Q := by
  refine ⟨fun _ _ => trivial, ?_⟩
  rw [Oper.semAt_eq _ _ _ hd]
  rcases h with ⟨c, w', hr, hn⟩ | ⟨w', hr, hn⟩ | ⟨f, args, w', hr, hc⟩
  · rw [hr]; exact hn
  · rw [hr]; exact hn
  · rw [hr]
    refine ⟨fun h => (by cases h), (callsIn_FR hc).mono fun e w'' he => ?_⟩
    obtain ⟨v, rfl, hn⟩ := he
    exact hn
def markOf (D : Nat) : Deferred := { target := .collected D, args := #[] }
theorem marks_inj {Ds Ds' : List Nat} (h : Ds.map markOf = Ds'.map markOf) : Ds = Ds' := by
  have := congrArg (List.map fun d : Deferred => match d.target with | .collected D => D | _ => 0) h
  simpa [List.map_map, Function.comp_def, markOf] using this
def Marks (lo : Nat) (X : Nat → Prop) (ds : List Deferred) (w : World) : Prop :=
  ∃ Ds : List Nat, ds = Ds.map markOf ∧ Ds.Nodup ∧ ∀ D ∈ Ds, X D ∧ w.heap[D]? = some (.deferred (some [])) ∧ lo ≤ D
theorem Marks.nil {lo : Nat} {X : Nat → Prop} {w : World} : Marks lo X [] w := ⟨[], rfl, List.nodup_nil, by simp⟩
theorem Marks.step {lo : Nat} {X : Nat → Prop} {ds : List Deferred} {w w' : World} (h : Marks lo X ds w) (hw : ∀ D, X D → w.heap[D]? = some (.deferred (some [])) → w'.heap[D]? = some (.deferred (some []))) : Marks lo X ds w' := by
  obtain ⟨Ds, h1, h2, h3⟩ := h
  exact ⟨Ds, h1, h2, fun D hD => ⟨(h3 D hD).1, hw D (h3 D hD).1 (h3 D hD).2.1, (h3 D hD).2.2⟩⟩
theorem To.leaves {w w' : World} {X : Nat → Prop} {sl : List S} {cv : List Value} {F F' : Nat → Nat → Prop} (R : Rel P w X sl cv F) (t : To w F w' F') {b : Nat} (hb : X b) : w'.heap[b]? = w.heap[b]? :=
  t.turns.block b (R.xlt b hb) fun ⟨i, hi⟩ => R.apart i b hi hb
theorem Marks.to {lo : Nat} {w w' : World} {X : Nat → Prop} {sl : List S} {cv : List Value} {F F' : Nat → Nat → Prop} {ds : List Deferred} (h : Marks lo X ds w) (R : Rel P w X sl cv F) (t : To w F w' F') : Marks lo X ds w' :=
  h.step fun D hD hh => (t.leaves R hD).trans hh
def V.isInt (k : IntKind) : V → Bool
  | .int k' _ => decide (k' = k)
  | _ => false
def downItems (k : IntKind) (es : List V) : Option (List (List V)) :=
  if (decide (es.length ≤ 4611686018427387904) && es.all (V.isInt k)) = true then some ((List.range es.length).reverse.map fun (i : Nat) => [V.int .i64 (i : Int), (es[i]?).getD V.nilp]) else none
def Iterates (P : Program) (f : FuncId) (vs : List Value) (encs : List (List Value)) (w : World) (Z : Nat → Prop) : Prop :=
  ∀ (l : Nat) (J : Nat → World → Prop) (Jx : World → Prop) (W : World), w.heap.size ≤ W.heap.size →
    (∀ k W1 W2, J k W1 → Turns W1 W2 (fun _ => False) → J k W2) → (∀ W1 W2, Jx W1 → Turns W1 W2 (fun _ => False) → Jx W2) →
    (∀ k W1, J k W1 → W.heap.size ≤ W1.heap.size ∧ ∀ b, Z b → W1.heap[b]? = w.heap[b]?) →
    (∀ k e W1, encs[k]? = some e → J k W1 → YieldAt Fence.wide 0 P l e.toArray W1 fun e' W' => (e' = .returned (.bool true) ∧ J (k + 1) W') ∨ (e' = .returned (.bool false) ∧ Jx W')) →
    J 0 W → CallsIn Fence.wide 0 P f (#[.func (.yield l) #[] #[]] ++ vs.toArray) W fun e W' => (∃ v, e = .returned v) ∧ (J encs.length W' ∨ Jx W')
def IteratesO (P : Program) (f : FuncId) (vs : List Value) (encs : List (List Value)) (w : World) (Z Fg : Nat → Prop) : Prop :=
  ∀ (l : Nat) (J : Nat → World → Prop) (Jx : World → Prop) (W : World), w.heap.size ≤ W.heap.size → (∀ b, Fg b → W.heap[b]? = w.heap[b]?) →
    (∀ k W1 W2, J k W1 → Turns W1 W2 Fg → J k W2) → (∀ W1 W2, Jx W1 → Turns W1 W2 Fg → Jx W2) →
    (∀ k W1, J k W1 → W.heap.size ≤ W1.heap.size ∧ ∀ b, Z b → W1.heap[b]? = w.heap[b]?) →
    (∀ k e W1, encs[k]? = some e → J k W1 → YieldAt Fence.wide 0 P l e.toArray W1 fun e' W' => (∀ b, Fg b → W'.heap[b]? = W1.heap[b]?) ∧ ((e' = .returned (.bool true) ∧ J (k + 1) W') ∨ (e' = .returned (.bool false) ∧ Jx W'))) →
    J 0 W → CallsIn Fence.wide 0 P f (#[.func (.yield l) #[] #[]] ++ vs.toArray) W fun e W' => (∃ v, e = .returned v) ∧ (J encs.length W' ∨ Jx W')
theorem Iterates.owned {f : FuncId} {vs : List Value} {encs : List (List Value)} {w : World} {Z : Nat → Prop} (h : Iterates P f vs encs w Z) : IteratesO P f vs encs w Z (fun _ => False) :=
  fun l J Jx W hW _ hJ hJx hK hY h0 => h l J Jx W hW hJ hJx hK (fun k e W1 he hj => by
    obtain ⟨fn, tmps, assign, body, hy, hR⟩ := hY k e W1 he hj
    exact ⟨fn, tmps, assign, body, hy, hR.mono fun e' W' hh => hh.2⟩) h0
def ISound (P : Program) (H : Hints) : Prop :=
  ∀ (f : FuncId) (caps : List V) (items : List (List V)), H.iter f caps = some items → ∀ (w : World) (Z : Nat → Prop) (vs : List Value), vs.length = caps.length → (∀ b, Z b → b < w.heap.size) →
    (∀ (i : Nat) (v : V) (c : Value), caps[i]? = some v → vs[i]? = some c → PRep w Z Z v c) →
    ∃ encs : List (List Value), encs.length = items.length ∧ (∀ (i : Nat) (x : List V) (e : List Value), items[i]? = some x → encs[i]? = some e → e.length = x.length ∧ ∀ (k : Nat) (v : V) (c : Value), x[k]? = some v → e[k]? = some c → PRep w (fun _ => False) Z v c) ∧
      Iterates P f vs encs w Z
def IOSound (P : Program) (H : Hints) : Prop :=
  ∀ (f : FuncId) (x : T) (items : List (List V)), H.iterO f x = some items → ∀ (w : World) (Zs Zx : Nat → Prop) (c : Value) (Fg : Nat → Prop), TRep P w Zs Zx none x c Fg → (∀ b, Zs b → Zx b) → (∀ b, Zx b → b < w.heap.size) →
    (∀ b, Fg b → b < w.heap.size ∧ ¬ Zx b) →
    ∃ encs : List (List Value), encs.length = items.length ∧ (∀ (i : Nat) (x : List V) (e : List Value), items[i]? = some x → encs[i]? = some e → e.length = x.length ∧ ∀ (k : Nat) (v : V) (c : Value), x[k]? = some v → e[k]? = some c → PRep w Zs Zx v c) ∧
      IteratesO P f [c] encs w Zx Fg
theorem noIterO {H : Hints} (h : ∀ f x, H.iterO f x = none) : IOSound P H := fun f x items hi => by rw [h] at hi; cases hi
theorem noIter {H : Hints} (h : ∀ f caps, H.iter f caps = none) : ISound P H := fun f caps items hi => by rw [h] at hi; cases hi
end
end Go.Proofs.Ytffofdfikmpanaa.A
