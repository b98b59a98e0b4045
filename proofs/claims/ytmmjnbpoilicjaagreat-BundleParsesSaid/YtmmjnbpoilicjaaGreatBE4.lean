/- The evaluator: regions, code and functions are sound: what a run says of a call. -/
import Derived.Test.YtmmjnbpoilicjaaGreatBE3
import Derived.Orders
set_option linter.unusedVariables false
set_option linter.unusedSimpArgs false
section
namespace Go.E
open Go Go.RowKit
variable {P : Program} {B0 L : Nat} {G : Gh} {w : World}
theorem rep_none {v : Value} : Rep G .none v := by simp only [Rep]
def Sto.Good : Sto → Prop | .mk _ _ _ R W => ∀ n ∈ W, n ∈ R
theorem ok_step {α : Type} {m : M α} (hm : Ok m) {σ σ' : Sto} {a : α} (hf : Tm.Full depth σ.s) (hg : σ.Good) (h : Runs m σ a σ') : σ.c ≤ σ'.c ∧ Tm.Full depth σ'.s ∧ σ'.Good := by
  obtain ⟨lg, c, s, R, W⟩ := σ
  cases lg
  · obtain ⟨c', s', rfl, h1, h2⟩ := hm.quiet _ _ _ _ _ _ hf h
    exact ⟨h1, h2, hg⟩
  · obtain ⟨c', s', R', W', rfl, d⟩ := hm.does _ _ _ _ _ _ hg hf h
    exact ⟨d.le, d.full, d.sub⟩
theorem probe_inv {α : Type} {m : M α} (hm : Ok m) {σ σ' : Sto} {d : Did α} (hf : Tm.Full depth σ.s) (h : Runs (probe m) σ d σ') :
    ∃ a c' s' R W, Runs m (.mk true σ.c σ.s [] []) a (.mk true c' s' R W) ∧ Does m σ.c σ.s [] [] a c' s' R W ∧ (∀ n ∈ R, n < σ.c ∨ n < c') ∧ (∀ n ∈ W, n < σ.c ∨ n < c') ∧
      d = .mk a σ.c c' (belowL σ.c R) (belowL σ.c W) ∧ σ'.c = c' ∧ σ'.s = s' := by
  obtain ⟨lg, c, s, R0, W0⟩ := σ
  obtain ⟨a, σ₁, h1⟩ := hm.det (.mk true c s [] []) _ _ (h fun _ _ => some default)
  obtain ⟨c', s', R', W', rfl, d1⟩ := hm.does _ _ _ _ _ _ (by simp) hf h1
  have e := fun k => probe_mk m lg c s R0 W0 h1 k
  rcases below_or c c' R' with ⟨hR, h2⟩ | h2
  · rcases below_or c c' W' with ⟨hW, h3⟩ | h3
    · cases lg
      · have h4 : Runs (E.probe m) (.mk false c s R0 W0) _ _ := fun k => by rw [e, h2, h3]; rfl
        obtain ⟨rfl, rfl⟩ := h4.det h
        exact ⟨a, c', s', R', W', h1, d1, hR, hW, rfl, rfl, rfl⟩
      · have h4 : Runs (E.probe m) (.mk true c s R0 W0) _ _ := fun k => by rw [e, h2, h3]; rfl
        obtain ⟨rfl, rfl⟩ := h4.det h
        exact ⟨a, c', s', R', W', h1, d1, hR, hW, rfl, rfl, rfl⟩
    · have := h fun _ _ => some default; rw [e, h2, h3] at this; cases this
  · have := h fun _ _ => some default; rw [e, h2] at this; cases this
theorem outer_inv {α : Type} {m : M α} (hm : Ok m) {σ σ' : Sto} {a : α} (hf : Tm.Full depth σ.s) (hgd : σ.Good) (h : Runs (outer m) σ a σ') :
    ∃ τ τ', Runs m τ a τ' ∧ τ.Good ∧ τ.c = σ.c ∧ τ.s = σ.s ∧ τ'.c = σ'.c ∧ τ'.s = σ'.s := by
  obtain ⟨lg, c, s, R, W⟩ := σ
  cases lg
  · exact ⟨_, _, fun k => (outer_false m c s R W k).symm.trans (h k), hgd, rfl, rfl, rfl, rfl⟩
  · have h1 : Runs (E.bind (E.probe m) fun d => E.pur d.ans) (.mk true c s R W) a σ' := fun k => (outer_true m c s R W k).symm.trans (h k)
    obtain ⟨d, σ1, h2, h3⟩ := h1.split hm.probe
    obtain ⟨rfl, rfl⟩ := pur_inv h3
    obtain ⟨b, c', s', R', W', g1, -, -, -, rfl, g2, g3⟩ := probe_inv hm hf h2
    exact ⟨_, _, g1, fun n (hn : n ∈ []) => (List.not_mem_nil hn).elim, rfl, rfl, g2.symm, g3.symm⟩
theorem rep_konst (v : Value) : Rep G (konst v) v := by
  unfold konst
  split
  · rename_i cs
    rw [mapR_eq, Rep]
    exact ⟨cs.toList, by simp, reps_lit _⟩
  · rename_i b
    rw [mapR_eq, seqLN_eq, Rep]
    exact ⟨b, rfl, rfl⟩
  · exact rep_lit _
theorem rep_operand {tm : Fr} {a : Act} {x : Operand} (h : ∀ t, x = .tmp t → Rep G (tm.get t) (a.eval (.tmp t))) : Rep G (eval tm x) (a.eval x) := by
  cases x with
  | tmp t => exact h t rfl
  | const v => exact rep_konst v
  | global g => exact rep_none
  | func f => show Rep G (.fn f [] []) (.func (.func f) #[] #[]); rw [Rep]; exact ⟨[], [], rfl, Reps.nil, Reps.nil⟩
def FrOk (G : Gh) (tm : Fr) (a : Act) : Prop := ∀ t, Rep G (tm.get t) (a.eval (.tmp t))
theorem FrOk.mono {G' : Gh} {tm : Fr} {a : Act} (h : FrOk G tm a) (hG : G.le G') : FrOk G' tm a := fun t => (h t).mono hG
theorem get_putT (tm : Fr) (dst : Option Nat) (d : DV) (t : Nat) : (putT tm dst d).get t = if dst = some t then d else tm.get t := by
  obtain ⟨l, m⟩ := tm
  cases dst with
  | none => rw [if_neg (by simp)]; rfl
  | some x =>
    show (Bool.rec (l.get t (m.get t)) d (Nat.beq t x) : DV) = _
    rw [beq_ite]
    by_cases h : t = x
    · subst h; rw [if_pos rfl, if_pos rfl]
    · rw [if_neg h, if_neg (by simpa using fun hh => h hh.symm)]; rfl
theorem eval_put {a : Act} {dst : Option Nat} {v : Value} (hd : ∀ d, dst = some d → d < a.tmps.size) (t : Nat) : (a.put dst v).eval (.tmp t) = if dst = some t then v else a.eval (.tmp t) := by
  cases dst with
  | none => rw [if_neg (by simp)]; rfl
  | some x =>
    have hx := hd x rfl
    show (a.tmps.setIfInBounds x v).getD t undef = _
    by_cases h : x = t
    · subst h
      rw [if_pos rfl]
      simp [hx]
    · rw [if_neg (by simpa using h)]
      show _ = a.tmps.getD t undef
      simp [Array.getElem?_setIfInBounds_ne h]
theorem put_size (a : Act) (dst : Option Nat) (v : Value) : (a.put dst v).tmps.size = a.tmps.size := by
  cases dst <;> simp [Act.put]
theorem put_defs (a : Act) (dst : Option Nat) (v : Value) : (a.put dst v).defers = a.defers := by
  cases dst <;> rfl
theorem FrOk.put {tm : Fr} {a : Act} (h : FrOk G tm a) {dst : Option Nat} (hd : ∀ d, dst = some d → d < a.tmps.size) {d : DV} {v : Value} (hv : Rep G d v) : FrOk G (putT tm dst d) (a.put dst v) := fun t => by
  rw [get_putT, eval_put hd]
  split
  · exact hv
  · exact h t
def guardT (ops : Array Oper) (o : Oper) (t : Nat) : Prop := ∃ j want q, o.guard = some (j, want) ∧ ops[j]? = some q ∧ q.dst = some t
theorem wants_ok {ops : Array Oper} {tm : Fr} {o : Oper} {a : Act} {b : Bool} (h : wants ops.toList tm o = some b) (hg : ∀ t, guardT ops o t → Rep G (tm.get t) (a.eval (.tmp t))) : Region.wanted o (yielded ops a.tmps) = b := by
  unfold wants at h
  unfold Region.wanted
  cases hgd : o.guard with
  | none => rw [hgd] at h; cases h; rfl
  | some p =>
    obtain ⟨j, want⟩ := p
    rw [hgd] at h
    have h : (Option.rec (some false) (fun g : Oper => Option.rec (some false) (fun x => match tm.get x with
      | .bool v => some (Bool.rec (Bool.rec true false v) v want)
      | .tup [] => some false
      | _ => none) g.dst) (nth ops.toList j) : Option Bool) = some b := h
    rw [nth_eq, Array.getElem?_toList] at h
    show (yielded ops a.tmps j == some want) = b
    unfold yielded
    cases hq : ops[j]? with
    | none => rw [hq] at h; cases h; rfl
    | some q =>
      rw [hq] at h
      have h : (Option.rec (some false) (fun x => match tm.get x with
        | .bool v => some (Bool.rec (Bool.rec true false v) v want)
        | .tup [] => some false
        | _ => none) q.dst : Option Bool) = some b := h
      cases hd : q.dst with
      | none => rw [hd] at h; cases h; simp [hd]
      | some t =>
        rw [hd] at h
        have h : (match tm.get t with
          | .bool v => some (Bool.rec (Bool.rec true false v) v want)
          | .tup [] => some false
          | _ => none : Option Bool) = some b := h
        have hr := hg t ⟨j, want, q, hgd, hq, hd⟩
        have hev : a.eval (.tmp t) = a.tmps.getD t undef := rfl
        simp only [Option.bind_some, hd]
        split at h
        · rename_i v he
          rw [he] at hr
          have hr := rep_bool hr
          rw [hev] at hr
          cases hv : a.tmps[t]? with
          | none => simp [hv, undef] at hr
          | some u =>
            simp [hv] at hr
            subst hr
            cases h
            cases v <;> cases want <;> rfl
        · rename_i he
          rw [he, Rep] at hr
          obtain ⟨vs, hr, hvs⟩ := hr
          rw [Reps.nil_iff] at hvs
          subst hvs
          rw [hev] at hr
          cases h
          cases hv : a.tmps[t]? with
          | none => rfl
          | some u =>
            simp [hv] at hr
            subst hr
            rfl
        · cases h
def Answers (P : Program) (B0 L : Nat) (G : Gh) (w : World) (g : Nat) (vs : List Value) (d : DV) (σ' : Sto) : Prop :=
  ((callFunc g vs.toArray).run P w = .ok (.enter g vs.toArray) w ∧ Calls P g vs.toArray w fun e w' => ∃ v G', e = .returned v ∧ Rep G' d v ∧ G.le G' ∧ Inv B0 G' σ'.c L σ'.s w' ∧ Below B0 w w') ∨
  ∃ v w' G', (callFunc g vs.toArray).run P w = .ok (.value v) w' ∧ Rep G' d v ∧ G.le G' ∧ Inv B0 G' σ'.c L σ'.s w' ∧ Below B0 w w'
def CallOk (P : Program) (B0 : Nat) (call : Nat → List DV → M DV) : Prop := ∀ (L : Nat) (G : Gh) (w : World) (g : Nat) (ds : List DV) (vs : List Value) (σ : Sto) (d : DV) (σ' : Sto), Runs (call g ds) σ d σ' → Reps G ds vs → σ.Good → Inv B0 G σ.c L σ.s w → B0 ≤ w.heap.size → σ'.c ≤ L → Answers P B0 L G w g vs d σ'
variable {tb : Tab} {call : Nat → List DV → M DV}
theorem oper_step (hT : ∀ t ti, look tb.ty t = some ti → TyOk P t ti) (hE : ∀ t, has tb.eq t = true → EqOk P t) (hok : ∀ f args, Ok (call f args)) (hcall : CallOk P B0 call) {ops : Array Oper} {o : Oper} {tm tm' : Fr} {σ σ' : Sto}
    (h : Runs (evOper tb call ops.toList o tm) σ tm' σ') {a : Act} (hx : ∀ t, .tmp t ∈ o.op.operands → Rep G (tm.get t) (a.eval (.tmp t))) (hg : ∀ t, guardT ops o t → Rep G (tm.get t) (a.eval (.tmp t)))
    (hgd : σ.Good) (I : Inv B0 G σ.c L σ.s w) (hB0 : B0 ≤ w.heap.size) (hL : σ'.c ≤ L) {i : Nat} (hi : ops[i]? = some o) {Q : Exit → Act → World → Prop} {K : Act → World → Prop}
    (hK : ∀ v d w' G', tm' = putT tm o.dst d → Rep G' d v → G.le G' → Inv B0 G' σ'.c L σ'.s w' → Below B0 w w' → K (a.put o.dst v) w') : wpOp P ops Q i K a w := by
  rw [evOper_eq] at h
  unfold wpOp
  simp only [hi]
  split at h
  · exact (fail_inv h).elim
  · rename_i hw
    rw [if_pos (wants_ok hw hg)]
    refine .inl ?_
    obtain ⟨d, σ1, h1, h2⟩ := h.split (ok_evOp hok _ _)
    obtain ⟨rfl, rfl⟩ := pur_inv h2
    unfold Oper.wp
    rcases evOp_sound (ρ := a.eval) hT hE h1 (fun x hm => rep_operand fun t ht => hx t (ht ▸ hm)) I hB0 hL with ⟨v, w', G', hr, h3, h4, h5, h6⟩ | ⟨g, ds, vs, hrun, hvs, hr⟩
    · rcases hr with hr | ⟨rfl, hr⟩
      · rw [hr, Oper.upon_value]; exact hK v d w' G' rfl h3 h4 h5 h6
      · rw [hr, Oper.upon_skip]; exact hK _ d w' G' rfl h3 h4 h5 h6
    · obtain ⟨τ, τ', g1, g0, g2, g3, g4, g5⟩ := outer_inv (hok _ _) I.full hgd hrun
      rcases hcall L G w g ds vs τ d τ' g1 hvs g0 (by rw [g2, g3]; exact I) hB0 (by rw [g4]; exact hL) with ⟨g6, g7⟩ | ⟨v, w', G', g6, h3, h4, h5, h6⟩
      · rw [hr, g6, Oper.upon_enter]
        refine g7.mono fun e w' he => ?_
        obtain ⟨v, G', rfl, h3, h4, h5, h6⟩ := he
        exact hK v d w' G' rfl h3 h4 (by rw [← g4, ← g5]; exact h5) h6
      · rw [hr, g6, Oper.upon_value]
        exact hK v d w' G' rfl h3 h4 (by rw [← g4, ← g5]; exact h5) h6
  · rename_i hw
    rw [if_neg (by rw [wants_ok hw hg]; simp)]
    obtain ⟨rfl, rfl⟩ := pur_inv h
    exact hK undef (.tup []) w G rfl (by rw [Rep]; exact ⟨[], rfl, Reps.nil⟩) (.refl G) I (.refl _ _)
def fitsOps (N : Nat) (ops : List Oper) : Prop := ∀ o ∈ ops, ∀ d, o.dst = some d → d < N
theorem plain_ops (hT : ∀ t ti, look tb.ty t = some ti → TyOk P t ti) (hE : ∀ t, has tb.eq t = true → EqOk P t) (hok : ∀ f args, Ok (call f args)) (hcall : CallOk P B0 call) {ops : Array Oper} {Q : Exit → Act → World → Prop} {N : Nat} (hN : fitsOps N ops.toList) {w0 : World} {G0 : Gh} {ds : List Deferred} {fr : Fr} {τ : Sto} :
    ∀ (r : List Oper) (i : Nat) (tm : Fr) (σ : Sto) (a : Act) (w : World) (G : Gh), ops.toList.drop i = r → Runs (evOps tb call ops.toList r tm) σ fr τ → FrOk G tm a → a.tmps.size = N → a.defers = ds → σ.Good → Inv B0 G σ.c L σ.s w → B0 ≤ w.heap.size → τ.c ≤ L → Below B0 w0 w → G0.le G →
      (∀ a' w' G', FrOk G' fr a' → a'.tmps.size = N → a'.defers = ds → Inv B0 G' τ.c L τ.s w' → Below B0 w0 w' → G0.le G' → Q .normal a' w') →
      wpOps P ops Q ((List.range ops.size).drop i) a w
  | [], i, tm, σ, a, w, G, hr, h, hf, hs, hd, hgd, I, hB0, hL, hb, hG, hQ => by
    have hi : ops.size ≤ i := by have := List.drop_eq_nil_iff.1 hr; simpa using this
    rw [List.drop_eq_nil_of_le (by simpa using hi)]
    obtain ⟨rfl, rfl⟩ := pur_inv (show Runs (pur tm) σ fr τ from h)
    exact hQ a w G hf hs hd I hb hG
  | o :: r, i, tm, σ, a, w, G, hr, h, hf, hs, hd, hgd, I, hB0, hL, hb, hG, hQ => by
    have hlt : i < ops.size := by
      rcases Nat.lt_or_ge i ops.size with h | h
      · exact h
      · rw [List.drop_eq_nil_of_le (by simpa using h)] at hr; cases hr
    have ho : ops[i]? = some o := by
      have : (ops.toList.drop i)[0]? = some o := by rw [hr]; rfl
      rw [List.getElem?_drop, Array.getElem?_toList] at this
      simpa using this
    have hr' : ops.toList.drop (i + 1) = r := by
      rw [← List.drop_drop, hr]; rfl
    have hdrop : (List.range ops.size).drop i = i :: (List.range ops.size).drop (i + 1) := by
      rw [List.drop_eq_getElem_cons (by simpa using hlt)]; simp
    rw [hdrop, wpOps_cons]
    have h : Runs (bind (evOper tb call ops.toList o tm) fun tm' => evOps tb call ops.toList r tm') σ fr τ := h
    obtain ⟨tm', σ1, h1, h2⟩ := h.split (ok_evOper hok _ _ _)
    obtain ⟨-, k2, k3⟩ := ok_step (ok_evOper hok _ _ _) I.full hgd h1
    obtain ⟨hle, -, -⟩ := ok_step (ok_evOps hok _ _ _) k2 k3 h2
    refine oper_step hT hE hok hcall h1 (fun t _ => hf t) (fun t _ => hf t) hgd I hB0 (by omega) ho fun v d w' G' e1 e2 e3 e4 e5 => ?_
    have hdst : ∀ d, o.dst = some d → d < a.tmps.size := fun d hd => by rw [hs]; exact hN o (by rw [← Array.getElem?_toList] at ho; exact List.mem_of_getElem? ho) d hd
    refine plain_ops hT hE hok hcall hN r (i + 1) tm' σ1 _ w' G' hr' h2 (by rw [e1]; exact (hf.mono e3).put hdst e2) (by rw [put_size]; exact hs) (by rw [put_defs]; exact hd) k3 e4 (by have := e5.size; omega) hL (hb.trans e5) (hG.trans e3) hQ
end Go.E
end
section
namespace Go.E
open Go
abbrev Key := Nat ⊕ Nat
theorem ite_same {α : Sort _} {p q : Prop} {_ : Decidable p} {_ : Decidable q} (h : p ↔ q) (x y : α) : (if p then x else y) = if q then x else y := by
  by_cases hp : p
  · rw [if_pos hp, if_pos (h.1 hp)]
  · rw [if_neg hp, if_neg (fun hq => hp (h.2 hq))]
section
variable (mem : Nat → Key → DV) (Wk : Nat → Key → Prop) (D : Nat → Prop)
open Classical in
/-- What the places hold when those of D have been run, of the first k. -/
noncomputable def memD : Nat → Key → DV
  | 0, key => mem 0 key
  | k + 1, key => if D k ∧ Wk k key then mem (k + 1) key else memD k key
variable {mem Wk D} {Rk : Nat → Key → Prop} {Ah : Nat → Nat → Prop} {N : Nat}
theorem memD_at (F1 : ∀ k key, k < N → ¬ Wk k key → mem (k + 1) key = mem k key)
    (F2 : ∀ j k, j < k → k < N → ¬ Ah k j → ∀ key, (Wk j key → ¬ Rk k key ∧ ¬ Wk k key) ∧ (Wk k key → ¬ Rk j key))
    {i : Nat} (hi : i < N) (hD : ¬ D i) (ha : ∀ j, j < i → Ah i j → D j) (hc : ∀ k, i < k → k < N → D k → ¬ Ah k i) {key : Key} (hk : Rk i key ∨ Wk i key) : memD mem Wk D N key = mem i key := by
  have h1 : ∀ k, k ≤ i → memD mem Wk D k key = mem k key := by
    intro k
    induction k with
    | zero => intro _; rfl
    | succ k ih =>
      intro hle
      rw [memD]
      split
      · rfl
      · rename_i hn
        rw [ih (by omega)]
        refine (F1 k key (by omega) fun hw => ?_).symm
        by_cases hd : D k
        · exact hn ⟨hd, hw⟩
        · obtain ⟨h2, h3⟩ := (F2 k i (by omega) hi (fun hh => hd (ha k (by omega) hh)) key).1 hw
          exact hk.elim h2 h3
  have h2 : ∀ k, i ≤ k → k ≤ N → memD mem Wk D k key = mem i key := by
    intro k
    induction k with
    | zero =>
      intro hle _
      obtain rfl : i = 0 := by omega
      exact h1 0 (Nat.le_refl _)
    | succ k ih =>
      intro hle hkN
      rcases Nat.lt_or_ge k i with h | h
      · obtain rfl : i = k + 1 := by omega
        exact h1 _ (Nat.le_refl _)
      · rw [memD, if_neg ?_]
        · exact ih h (by omega)
        · rintro ⟨hd, hw⟩
          have hne : i ≠ k := fun hh => hD (hh ▸ hd)
          have hna := hc k (by omega) (by omega) hd
          obtain ⟨h3, h4⟩ := F2 i k (by omega) (by omega) hna key
          rcases hk with hk | hk
          · exact h4 hw hk
          · exact (h3 hk).2 hw
  exact h2 N (by omega) (Nat.le_refl _)
theorem memD_add (F2 : ∀ j k, j < k → k < N → ¬ Ah k j → ∀ key, (Wk j key → ¬ Rk k key ∧ ¬ Wk k key) ∧ (Wk k key → ¬ Rk j key))
    {i : Nat} (hi : i < N) (hD : ¬ D i) (hc : ∀ k, i < k → k < N → D k → ¬ Ah k i) (key : Key) [Decidable (Wk i key)] : memD mem Wk (fun k => D k ∨ k = i) N key = if Wk i key then mem (i + 1) key else memD mem Wk D N key := by
  have h1 : ∀ k, k ≤ i → memD mem Wk (fun k => D k ∨ k = i) k key = memD mem Wk D k key := by
    intro k
    induction k with
    | zero => intro _; rfl
    | succ k ih =>
      intro hle
      rw [memD, memD, ih (by omega)]
      have : ((D k ∨ k = i) ∧ Wk k key) ↔ (D k ∧ Wk k key) := by
        constructor
        · rintro ⟨h | h, hw⟩
          · exact ⟨h, hw⟩
          · omega
        · rintro ⟨h, hw⟩; exact ⟨.inl h, hw⟩
      exact ite_same this _ _
  have h2 : ∀ k, i < k → k ≤ N → memD mem Wk (fun k => D k ∨ k = i) k key = if Wk i key then mem (i + 1) key else memD mem Wk D k key := by
    intro k
    induction k with
    | zero => intro h; omega
    | succ k ih =>
      intro hle hkN
      rcases Nat.lt_or_ge i k with h | h
      · rw [memD, ih h (by omega)]
        by_cases hw : D k ∧ Wk k key
        · have hna := hc k h (by omega) hw.1
          have hni : ¬ Wk i key := fun hh => ((F2 i k h (by omega) hna key).1 hh).2 hw.2
          rw [if_pos ⟨.inl hw.1, hw.2⟩, if_neg hni, memD, if_pos hw]
        · rw [if_neg (by rintro ⟨h3 | h3, h4⟩
                         · exact hw ⟨h3, h4⟩
                         · omega), memD, if_neg hw]
      · obtain rfl : k = i := by omega
        rw [memD, h1 k (Nat.le_refl _)]
        by_cases hw : Wk k key
        · rw [if_pos ⟨.inr rfl, hw⟩, if_pos hw]
        · rw [if_neg (fun hh => hw hh.2), if_neg hw, memD, if_neg (fun hh => hw hh.2)]
  exact h2 N hi (Nat.le_refl _)
theorem memD_all (F1 : ∀ k key, k < N → ¬ Wk k key → mem (k + 1) key = mem k key) (hD : ∀ k, k < N → D k) (key : Key) : ∀ k, k ≤ N → memD mem Wk D k key = mem k key
  | 0, _ => rfl
  | k + 1, h => by
    rw [memD, memD_all F1 hD key k (by omega)]
    split
    · rfl
    · rename_i hn
      exact (F1 k key (by omega) fun hw => hn ⟨hD k (by omega), hw⟩).symm
theorem memD_none (hD : ∀ k, ¬ D k) (key : Key) : ∀ k, memD mem Wk D k key = mem 0 key
  | 0 => rfl
  | k + 1 => by rw [memD, if_neg (fun hh => hD k hh.1)]; exact memD_none hD key k
theorem memD_congr {D' : Nat → Prop} (h : ∀ k, k < N → (D k ↔ D' k)) (key : Key) : ∀ k, k ≤ N → memD mem Wk D k key = memD mem Wk D' k key
  | 0, _ => rfl
  | k + 1, hk => by
    rw [memD, memD, memD_congr h key k (by omega)]
    exact ite_same (and_congr (h k (by omega)) Iff.rfl) _ _
end
theorem bit_eq (V t : Nat) : bit V t = V.testBit t := by
  unfold bit
  show Nat.beq ((V >>> t) % 2) 1 = _
  rw [Nat.testBit]
  have h : 1 &&& (V >>> t) = (V >>> t) % 2 := by rw [Nat.and_comm]; exact Nat.and_one_is_mod _
  rw [h]
  have h2 : (V >>> t) % 2 = 0 ∨ (V >>> t) % 2 = 1 := by omega
  rcases h2 with h2 | h2 <;> rw [h2] <;> rfl
theorem bit_lor (V W t : Nat) : bit (Nat.lor V W) t = (bit V t || bit W t) := by
  rw [bit_eq, bit_eq, bit_eq]
  exact Nat.testBit_or _ _ _
theorem bit_land (V W t : Nat) : bit (Nat.land V W) t = (bit V t && bit W t) := by
  rw [bit_eq, bit_eq, bit_eq]
  exact Nat.testBit_and _ _ _
theorem bit_pow (x t : Nat) : bit (Nat.pow 2 x) t = decide (x = t) := by
  rw [bit_eq]
  exact Nat.testBit_two_pow
theorem bit_zero (t : Nat) : bit 0 t = false := by
  rw [bit_eq]; exact Nat.zero_testBit t
theorem bit_dstM {o : Oper} {t : Nat} : bit (dstM o) t = true ↔ o.dst = some t := by
  unfold dstM
  cases o.dst with
  | none => show bit 0 t = true ↔ _; rw [bit_zero]; simp
  | some x => show bit (Nat.pow 2 x) t = true ↔ _; rw [bit_pow]; simp
theorem bit_guardM {ops : Array Oper} {o : Oper} {t : Nat} (h : guardT ops o t) : bit (guardM ops.toList o) t = true := by
  obtain ⟨j, want, q, h1, h2, h3⟩ := h
  unfold guardM
  rw [h1]
  show bit (Option.rec 0 dstM (nth ops.toList j)) t = true
  rw [nth_eq, Array.getElem?_toList, h2]
  exact bit_dstM.2 h3
theorem bit_lookM {ops : Array Oper} {o : Oper} {t : Nat} (h : .tmp t ∈ o.op.operands ∨ guardT ops o t) : bit (lookM ops.toList o) t = true := by
  unfold lookM
  have key : ∀ (l : List Operand), (.tmp t ∈ l ∨ bit (guardM ops.toList o) t = true) → bit (List.rec (guardM ops.toList o) (fun x _ ih => Operand.rec (fun t => Nat.lor (Nat.pow 2 t) ih) (fun _ => ih) (fun _ => ih) (fun _ => ih) x) l : Nat) t = true := by
    intro l
    induction l with
    | nil =>
      intro h
      rcases h with h | h
      · cases h
      · exact h
    | cons x r ih =>
      intro h
      have h' : x = .tmp t ∨ (.tmp t ∈ r ∨ bit (guardM ops.toList o) t = true) := by
        rcases h with h | h
        · rcases List.mem_cons.1 h with h | h
          · exact .inl h.symm
          · exact .inr (.inl h)
        · exact .inr (.inr h)
      rcases h' with rfl | h'
      · show bit (Nat.lor (Nat.pow 2 t) _) t = true
        rw [bit_lor, bit_pow]; simp
      · have := ih h'
        cases x with
        | tmp u => show bit (Nat.lor (Nat.pow 2 u) _) t = true; rw [bit_lor, this]; simp
        | const v => exact this
        | global g => exact this
        | func f => exact this
  exact key _ (h.imp (fun h => Array.mem_toList_iff.2 h) bit_guardM)
def Clear (ops : List Oper) (o q : Oper) : Prop := ∀ t, (q.dst = some t → bit (lookM ops o) t = false ∧ o.dst ≠ some t) ∧ (o.dst = some t → bit (lookM ops q) t = false)
theorem apartT_inv {ops : List Oper} {p : Nat} {o : Oper} : ∀ (prev : List Oper) (j : Nat), apartT ops p (dstM o) (lookM ops o) prev j = true → ∀ k q, prev[k]? = some q → bit p (j + k) = true ∨ Clear ops o q
  | [], j, h, k, q, hq => by cases hq
  | x :: r, j, h, k, q, hq => by
    have h : (Bool.rec (Bool.rec false (apartT ops p (dstM o) (lookM ops o) r (Nat.succ j)) (Nat.beq (Nat.lor (Nat.land (dstM x) (Nat.lor (lookM ops o) (dstM o))) (Nat.land (dstM o) (lookM ops x))) 0)) (apartT ops p (dstM o) (lookM ops o) r (Nat.succ j)) (bit p j) : Bool) = true := h
    have hrest : apartT ops p (dstM o) (lookM ops o) r (Nat.succ j) = true := by
      cases hb : bit p j with
      | true => rw [hb] at h; exact h
      | false =>
        rw [hb] at h
        revert h
        generalize Nat.beq _ 0 = c
        intro h
        cases c with
        | true => exact h
        | false => cases h
    cases k with
    | succ k =>
      rw [List.getElem?_cons_succ] at hq
      have := apartT_inv r (Nat.succ j) hrest k q hq
      rwa [show Nat.succ j + k = j + (k + 1) by omega] at this
    | zero =>
      cases hq
      cases hb : bit p j with
      | true => exact .inl rfl
      | false =>
        rw [hb] at h
        refine .inr fun t => ?_
        have hz : Nat.lor (Nat.land (dstM x) (Nat.lor (lookM ops o) (dstM o))) (Nat.land (dstM o) (lookM ops x)) = 0 := by
          cases hc : Nat.beq (Nat.lor (Nat.land (dstM x) (Nat.lor (lookM ops o) (dstM o))) (Nat.land (dstM o) (lookM ops x))) 0 with
          | true => exact Nat.eq_of_beq_eq_true hc
          | false => rw [hc] at h; cases h
        have hbit : bit (Nat.lor (Nat.land (dstM x) (Nat.lor (lookM ops o) (dstM o))) (Nat.land (dstM o) (lookM ops x))) t = false := by rw [hz, bit_zero]
        rw [bit_lor, bit_land, bit_land, bit_lor, Bool.or_eq_false_iff] at hbit
        refine ⟨fun hx => ?_, fun ho => ?_⟩
        · have h1 := hbit.1
          rw [bit_dstM.2 hx, Bool.true_and, Bool.or_eq_false_iff] at h1
          exact ⟨h1.1, fun hh => by rw [bit_dstM.2 hh] at h1; cases h1.2⟩
        · have h1 := hbit.2
          rw [bit_dstM.2 ho, Bool.true_and] at h1
          exact h1
theorem back_inv {i : Nat} : ∀ {l : List Edge}, back i l = true → ∀ e ∈ l, Region.binds .any e = true → e.on < i
  | [], _, e, he => by cases he
  | x :: r, h, e, he => by
    have h : (Bool.rec (back i r) (Bool.rec false (back i r) (Nat.ble (Nat.succ x.on) i)) (Region.binds .any x) : Bool) = true := h
    intro hb
    rcases List.mem_cons.1 he with rfl | he
    · rw [hb] at h
      cases hc : Nat.ble (Nat.succ e.on) i with
      | true => exact Nat.le_of_ble_eq_true hc
      | false => rw [hc] at h; cases h
    · refine back_inv (l := r) ?_ e he hb
      cases hc : Region.binds .any x with
      | false => rw [hc] at h; exact h
      | true =>
        rw [hc] at h
        revert h
        generalize Nat.ble _ i = c
        intro h
        cases c with
        | true => exact h
        | false => cases h
theorem quietT_inv {ops : List Oper} : ∀ (r : List Oper) (ps : List Nat) (i : Nat), quietT ops r ps i = true → ∀ k o, r[k]? = some o → ∃ p, ps[k]? = some p ∧ back (i + k) o.after.toList = true ∧ ∀ j q, j < i + k → ops[j]? = some q → bit p j = true ∨ Clear ops o q
  | [], ps, i, h, k, o, ho => by cases ho
  | x :: r, [], i, h, k, o, ho => by cases (show false = true from h)
  | x :: r, p :: ps, i, h, k, o, ho => by
    have h : (Bool.rec false (Bool.rec false (quietT ops r ps (Nat.succ i)) (takeR ops i fun prev => apartT ops p (dstM x) (lookM ops x) prev 0)) (back i x.after.toList) : Bool) = true := h
    rw [takeR_eq] at h
    have hb : back i x.after.toList = true := by
      cases hb : back i x.after.toList with
      | true => rfl
      | false => rw [hb] at h; cases h
    rw [hb] at h
    have ha : apartT ops p (dstM x) (lookM ops x) (ops.take i) 0 = true := by
      cases ha : apartT ops p (dstM x) (lookM ops x) (ops.take i) 0 with
      | true => rfl
      | false => rw [ha] at h; cases h
    rw [ha] at h
    cases k with
    | zero =>
      cases ho
      refine ⟨p, rfl, hb, fun j q hj hq => ?_⟩
      have := apartT_inv (ops.take i) 0 ha j q (by rw [List.getElem?_take, if_pos (by omega)]; exact hq)
      rwa [Nat.zero_add] at this
    | succ k =>
      rw [List.getElem?_cons_succ] at ho
      obtain ⟨p', h1, h2, h3⟩ := quietT_inv r ps (Nat.succ i) h k o ho
      refine ⟨p', h1, ?_, fun j q hj hq => h3 j q (by omega) hq⟩
      rwa [show Nat.succ i + k = i + (k + 1) by omega] at h2
theorem pres_eq : ∀ (r : List Oper) (acc : List Nat), ∃ l, pres r acc = acc ++ l ∧ l.length = r.length ∧ ∀ k o, r[k]? = some o → ∃ p, (acc ++ l)[acc.length + k]? = some p ∧ p = ahead ((acc ++ l).take (acc.length + k)) o.after.toList
  | [], acc => ⟨[], by simp [pres], rfl, fun k o h => by cases h⟩
  | o :: r, acc => by
    have h : pres (o :: r) acc = pres r (acc ++ [ahead acc o.after.toList]) := by
      show appR acc [ahead acc o.after.toList] (pres r) = _
      rw [appR_eq]
    obtain ⟨l, h1, h2, h3⟩ := pres_eq r (acc ++ [ahead acc o.after.toList])
    refine ⟨ahead acc o.after.toList :: l, ?_, by simp [h2], fun k q hq => ?_⟩
    · rw [h, h1]; simp
    · have he : acc ++ [ahead acc o.after.toList] ++ l = acc ++ ahead acc o.after.toList :: l := by simp
      cases k with
      | zero =>
        cases hq
        refine ⟨ahead acc o.after.toList, by simp, by simp⟩
      | succ k =>
        rw [List.getElem?_cons_succ] at hq
        obtain ⟨p, h4, h5⟩ := h3 k q hq
        rw [he] at h4 h5
        have hl : (acc ++ [ahead acc o.after.toList]).length + k = acc.length + (k + 1) := by simp; omega
        rw [hl] at h4 h5
        exact ⟨p, h4, h5⟩
theorem bit_ahead {pre : List Nat} {j : Nat} : ∀ {l : List Edge}, bit (ahead pre l) j = true → ∃ e ∈ l, Region.binds .any e = true ∧ (e.on = j ∨ ∃ m, pre[e.on]? = some m ∧ bit m j = true)
  | [], h => by rw [show ahead pre [] = 0 from rfl, bit_zero] at h; cases h
  | x :: r, h => by
    have h : bit (Bool.rec (ahead pre r) (Nat.lor (Nat.lor (Nat.pow 2 x.on) (Option.rec 0 (fun m => m) (nth pre x.on))) (ahead pre r)) (Region.binds .any x)) j = true := h
    cases hc : Region.binds .any x with
    | false =>
      rw [hc] at h
      obtain ⟨e, h1, h2⟩ := bit_ahead (l := r) h
      exact ⟨e, by simp [h1], h2⟩
    | true =>
      rw [hc] at h
      have h : bit (Nat.lor (Nat.lor (Nat.pow 2 x.on) (Option.rec 0 (fun m => m) (nth pre x.on))) (ahead pre r)) j = true := h
      rw [bit_lor, bit_lor, bit_pow, Bool.or_eq_true, Bool.or_eq_true, decide_eq_true_eq] at h
      rcases h with (h | h) | h
      · exact ⟨x, by simp, hc, .inl h⟩
      · rw [nth_eq] at h
        cases hm : pre[x.on]? with
        | none => rw [hm] at h; rw [show (Option.rec 0 (fun m => m) (none : Option Nat) : Nat) = 0 from rfl, bit_zero] at h; cases h
        | some m => rw [hm] at h; exact ⟨x, by simp, hc, .inr ⟨m, hm, h⟩⟩
      · obtain ⟨e, h1, h2⟩ := bit_ahead (l := r) h
        exact ⟨e, by simp [h1], h2⟩
end Go.E
end
section
namespace Go.E
open Go
structure Pt where
  tm : Fr
  c : Nat
  s : Tm
variable {tb : Tab} {call : Nat → List DV → M DV}
structure StepAt (tb : Tab) (call : Nat → List DV → M DV) (ops : List Oper) (o : Oper) (p p' : Pt) (R W : List Nat) : Prop where
  runs : Runs (evOper tb call ops o p.tm) (.mk true p.c p.s [] []) p'.tm (.mk true p'.c p'.s R W)
  does : Does (evOper tb call ops o p.tm) p.c p.s [] [] p'.tm p'.c p'.s R W
  inR : ∀ n ∈ R, n < p.c ∨ n < p'.c
  inW : ∀ n ∈ W, n < p.c ∨ n < p'.c
def Ap (R W : List Nat) (c c' : Nat) (R' W' : List Nat) : Prop := (∀ n ∈ W', n ∉ R) ∧ (∀ n ∈ W, n ∉ R') ∧ ∀ n ∈ R, ¬ (c ≤ n ∧ n < c')
theorem meet_inv : ∀ {a b : List Nat}, meet a b = false → ∀ n ∈ a, n ∉ b
  | [], b, _, n, hn => by cases hn
  | x :: r, b, h, n, hn => by
    have h : (Bool.rec (meet r b) true (has b x) : Bool) = false := h
    have hx : has b x = false := by
      cases hb : has b x with
      | true => rw [hb] at h; cases h
      | false => rfl
    rw [hx] at h
    rcases List.mem_cons.1 hn with rfl | hn
    · intro hh; rw [(has_iff _ _).2 hh] at hx; cases hx
    · exact meet_inv (a := r) h n hn
theorem noneIn_inv {c c' : Nat} : ∀ {l : List Nat}, noneIn c c' l = true → ∀ n ∈ l, ¬ (c ≤ n ∧ n < c')
  | [], _, n, hn => by cases hn
  | x :: r, h, n, hn => by
    have h : (Bool.rec (noneIn c c' r) (Bool.rec (noneIn c c' r) false (Nat.ble (Nat.succ x) c')) (Nat.ble c x) : Bool) = true := h
    rw [ble_ite, ble_ite] at h
    have hr : noneIn c c' r = true ∧ ¬ (c ≤ x ∧ x < c') := by
      by_cases h1 : c ≤ x
      · rw [if_pos h1] at h
        by_cases h2 : Nat.succ x ≤ c'
        · rw [if_pos h2] at h; cases h
        · rw [if_neg h2] at h; exact ⟨h, fun hh => h2 hh.2⟩
      · rw [if_neg h1] at h; exact ⟨h, fun hh => h1 hh.1⟩
    rcases List.mem_cons.1 hn with rfl | hn
    · exact hr.2
    · exact noneIn_inv (l := r) hr.1 n hn
theorem apart1_inv {R W : List Nat} {c c' : Nat} {R' W' : List Nat} (h : apart1 R W c c' R' W' = true) : Ap R W c c' R' W' := by
  have h : (Bool.rec (Bool.rec (noneIn c c' R) false (meet W R')) false (meet W' R) : Bool) = true := h
  have h1 : meet W' R = false := by
    cases hb : meet W' R with
    | true => rw [hb] at h; cases h
    | false => rfl
  rw [h1] at h
  have h2 : meet W R' = false := by
    cases hb : meet W R' with
    | true => rw [hb] at h; cases h
    | false => rfl
  rw [h2] at h
  exact ⟨meet_inv h1, meet_inv h2, noneIn_inv h⟩
theorem apart_inv {p : Nat} {R W : List Nat} {fs : List Foot} (h : apart p R W fs = true) (hsub : ∀ n ∈ W, n ∈ R) : ∀ j c c' R' W', Foot.mk j c c' R' W' ∈ fs → bit p j = true ∨ Ap R W c c' R' W' := by
  cases R with
  | nil =>
    intro j c c' R' W' _
    exact .inr ⟨fun n _ h => (List.not_mem_nil h).elim, fun n hn => (List.not_mem_nil (hsub n hn)).elim, fun n hn => (List.not_mem_nil hn).elim⟩
  | cons x r =>
    replace h : (List.rec true (fun f _ ih => Foot.rec (fun j c c' R' W' => Bool.rec (Bool.rec false ih (apart1 (x :: r) W c c' R' W')) ih (bit p j)) f) fs : Bool) = true := h
    induction fs with
    | nil => intro j c c' R' W' hm; cases hm
    | cons f rest ih =>
      obtain ⟨j0, c0, c0', R0, W0⟩ := f
      have h : (Bool.rec (Bool.rec false (List.rec true (fun f _ ih => Foot.rec (fun j c c' R' W' => Bool.rec (Bool.rec false ih (apart1 (x :: r) W c c' R' W')) ih (bit p j)) f) rest : Bool) (apart1 (x :: r) W c0 c0' R0 W0)) (List.rec true (fun f _ ih => Foot.rec (fun j c c' R' W' => Bool.rec (Bool.rec false ih (apart1 (x :: r) W c c' R' W')) ih (bit p j)) f) rest : Bool) (bit p j0) : Bool) = true := h
      intro j c c' R' W' hm
      cases hb : bit p j0 with
      | true =>
        rw [hb] at h
        rcases List.mem_cons.1 hm with heq | hm
        · cases heq; exact .inl hb
        · exact ih h j c c' R' W' hm
      | false =>
        rw [hb] at h
        cases ha : apart1 (x :: r) W c0 c0' R0 W0 with
        | false => rw [ha] at h; cases h
        | true =>
          rw [ha] at h
          rcases List.mem_cons.1 hm with heq | hm
          · cases heq; exact .inr (apart1_inv ha)
          · exact ih h j c c' R' W' hm
theorem mem_sub {c : Nat} {R W : List Nat} (h : ∀ n ∈ W, n ∈ R) : ∀ n ∈ belowL c W, n ∈ belowL c R := fun n hn => mem_belowL.2 ⟨h n (mem_belowL.1 hn).1, (mem_belowL.1 hn).2⟩
theorem draw_trace (hok : ∀ f args, Ok (call f args)) {ops : List Oper} : ∀ (r : List Oper) (ps : List Nat) (i : Nat) (fs : List Foot) (tm : Fr) (σ : Sto) (fr : Fr) (τ : Sto), Tm.Full depth σ.s → Runs (drawOps tb call ops r ps i fs tm) σ fr τ →
    ∃ (pt : Nat → Pt) (RR WW : Nat → List Nat), pt 0 = ⟨tm, σ.c, σ.s⟩ ∧ pt r.length = ⟨fr, τ.c, τ.s⟩ ∧ (∀ k o, r[k]? = some o → StepAt tb call ops o (pt k) (pt (k + 1)) (RR k) (WW k)) ∧
      ∀ k p, k < r.length → ps[k]? = some p → (∀ j c c' R W, Foot.mk j c c' R W ∈ fs → bit p j = true ∨ Ap (belowL (pt k).c (RR k)) (belowL (pt k).c (WW k)) c c' R W) ∧
        ∀ k', k' < k → bit p (i + k') = true ∨ Ap (belowL (pt k).c (RR k)) (belowL (pt k).c (WW k)) (pt k').c (pt (k' + 1)).c (belowL (pt k').c (RR k')) (belowL (pt k').c (WW k'))
  | [], ps, i, fs, tm, σ, fr, τ, hf, h => by
    obtain ⟨rfl, rfl⟩ := pur_inv (show Runs (pur tm) σ fr τ from h)
    exact ⟨fun _ => ⟨fr, τ.c, τ.s⟩, fun _ => [], fun _ => [], rfl, rfl, fun k o ho => (by cases ho), fun k p hk => (by simp at hk)⟩
  | o :: r, [], i, fs, tm, σ, fr, τ, hf, h => (fail_inv (show Runs (fail : M Fr) σ fr τ from h)).elim
  | o :: r, p :: ps, i, fs, tm, σ, fr, τ, hf, h => by
    have h : Runs (bind (probe (evOper tb call ops o tm)) fun d => Did.rec (fun tm' c c' R' W' => (Bool.rec fail (addFoot i c c' R' W' fs fun fs' => drawOps tb call ops r ps (Nat.succ i) fs' tm') (apart p R' W' fs) : M Fr)) d) σ fr τ := h
    have hok1 : Ok (evOper tb call ops o tm) := ok_evOper hok ops o tm
    obtain ⟨d, σ1, h1, h2⟩ := h.split hok1.probe
    obtain ⟨tm', c', s', R, W, g1, g2, g3, g4, rfl, g5, g6⟩ := probe_inv hok1 hf h1
    have h2 : Runs (Bool.rec fail (addFoot i σ.c c' (belowL σ.c R) (belowL σ.c W) fs fun fs' => drawOps tb call ops r ps (Nat.succ i) fs' tm') (apart p (belowL σ.c R) (belowL σ.c W) fs) : M Fr) σ1 fr τ := h2
    cases hap : apart p (belowL σ.c R) (belowL σ.c W) fs with
    | false => rw [hap] at h2; exact (fail_inv h2).elim
    | true =>
      rw [hap] at h2
      have hsub := mem_sub (c := σ.c) g2.sub
      have hap := apart_inv hap hsub
      obtain ⟨fs', hfs, hcase⟩ := addFoot_eq i σ.c c' (belowL σ.c R) (belowL σ.c W) fs (fun fs' => drawOps tb call ops r ps (Nat.succ i) fs' tm')
      have h2 : Runs (addFoot i σ.c c' (belowL σ.c R) (belowL σ.c W) fs fun fs' => drawOps tb call ops r ps (Nat.succ i) fs' tm') σ1 fr τ := h2
      rw [hfs] at h2
      obtain ⟨pt, RR, WW, q1, q2, q3, q4⟩ := draw_trace hok r ps (Nat.succ i) fs' tm' σ1 fr τ (by rw [g6]; exact g2.full) h2
      refine ⟨fun k => match k with | 0 => ⟨tm, σ.c, σ.s⟩ | k + 1 => pt k, fun k => match k with | 0 => R | k + 1 => RR k, fun k => match k with | 0 => W | k + 1 => WW k, rfl, q2, fun k o' ho => ?_, fun k p' hk hp => ?_⟩
      · cases k with
        | zero =>
          cases ho
          show StepAt tb call ops o ⟨tm, σ.c, σ.s⟩ (pt 0) R W
          rw [q1, g5, g6]
          exact ⟨g1, g2, g3, g4⟩
        | succ k => exact q3 k o' (by simpa using ho)
      · cases k with
        | zero =>
          cases hp
          exact ⟨hap, fun k' hk' => by omega⟩
        | succ k =>
          obtain ⟨q5, q6⟩ := q4 k p' (by simpa using hk) (by simpa using hp)
          refine ⟨fun j c c1 R1 W1 hm => ?_, fun k' hk' => ?_⟩
          · rcases hcase with rfl | ⟨rfl, -⟩
            · exact q5 j c c1 R1 W1 (by simp [hm])
            · exact q5 j c c1 R1 W1 hm
          · cases k' with
            | zero =>
              show bit p' i = true ∨ Ap _ _ σ.c (pt 0).c (belowL σ.c R) (belowL σ.c W)
              rw [q1, g5]
              rcases hcase with rfl | ⟨rfl, hcc, hR⟩
              · exact q5 i σ.c c' _ _ (by simp)
              · refine .inr ⟨fun n hn => ?_, fun n hn => by rw [hR]; simp, fun n _ => by show ¬ (σ.c ≤ n ∧ n < c'); omega⟩
                have := hsub n hn
                rw [hR] at this; cases this
            | succ k' =>
              have := q6 k' (by omega)
              rwa [show Nat.succ i + k' = i + (k' + 1) by omega] at this
end Go.E
end
section
namespace Go.E
open Go Go.RowKit
variable {P : Program} {B0 L : Nat} {tb : Tab} {call : Nat → List DV → M DV}
theorem Inv.congr {G : Gh} {c c' L' : Nat} {s s' : Tm} {w : World} (I : Inv B0 G c L s w) (hf : Tm.Full depth s') (hg : ∀ n, s'.get n = s.get n) (hfr : ∀ n, c' ≤ n → n < L' → s'.get n = .none) : Inv B0 G c' L' s' w :=
  ⟨hf, hfr, fun n e m fz cs h => I.row n e m fz cs ((hg n).symm.trans h), fun n => by rw [hg]; exact I.obj n, fun n e B h => by
    obtain ⟨h1, h2, h3⟩ := I.known n e B h
    exact ⟨h1, h2, by rw [hg]; exact h3⟩, I.apart⟩
theorem oper_put {ops : List Oper} {o : Oper} {tm tm' : Fr} {σ σ' : Sto} (hok : ∀ f args, Ok (call f args)) (h : Runs (evOper tb call ops o tm) σ tm' σ') : ∃ d, tm' = putT tm o.dst d := by
  rw [evOper_eq] at h
  split at h
  · exact (fail_inv h).elim
  · obtain ⟨d, σ1, h1, h2⟩ := h.split (ok_evOp hok _ _)
    obtain ⟨rfl, -⟩ := pur_inv h2
    exact ⟨d, rfl⟩
  · obtain ⟨rfl, -⟩ := pur_inv h
    exact ⟨_, rfl⟩
def Ahd (ps : List Nat) (k j : Nat) : Prop := ∃ p, ps[k]? = some p ∧ bit p j = true
def Closed (ops : Array Oper) (D : Nat → Prop) : Prop := ∀ k o, ops[k]? = some o → D k → ∀ e ∈ o.after, Region.binds .any e = true → D e.on
theorem ahd_closed {ops : Array Oper} {D : Nat → Prop} (hD : Closed ops D) : ∀ (n k : Nat) (o : Oper), k ≤ n → ops[k]? = some o → (∀ e ∈ o.after, Region.binds .any e = true → D e.on) → ∀ j, Ahd (pres ops.toList []) k j → D j
  | n, k, o, hk, ho, he, j, ⟨p, hp, hb⟩ => by
    obtain ⟨l, h1, h2, h3⟩ := pres_eq ops.toList []
    rw [h1, List.nil_append] at hp
    obtain ⟨p', h4, h5⟩ := h3 k o (by rw [Array.getElem?_toList]; exact ho)
    simp only [List.nil_append, List.length_nil, Nat.zero_add] at h4 h5
    rw [hp] at h4; cases h4
    rw [h5] at hb
    obtain ⟨e, he1, he2, he3⟩ := bit_ahead hb
    have hDe := he e (Array.mem_toList_iff.1 he1) he2
    rcases he3 with rfl | ⟨m, hm, hmb⟩
    · exact hDe
    · rw [List.getElem?_take] at hm
      split at hm
      · rename_i hlt
        cases n with
        | zero => omega
        | succ n =>
          have hlen : e.on < l.length := by
            rcases Nat.lt_or_ge e.on l.length with h | h
            · exact h
            · rw [List.getElem?_eq_none h] at hm; cases hm
          rw [h2] at hlen
          obtain ⟨o', ho'⟩ : ∃ o', ops[e.on]? = some o' := ⟨_, Array.getElem?_eq_getElem (by simpa using hlen)⟩
          exact ahd_closed hD n e.on o' (by omega) ho' (hD e.on o' ho' hDe) j ⟨m, by rw [h1, List.nil_append]; exact hm, hmb⟩
      · cases hm
def left (N : Nat) (listed : Array Bool) : Nat := ((List.range N).filter fun k => !listed.getD k false).length
theorem left_set {N : Nat} {listed : Array Bool} {i : Nat} (hi : i < N) (hl : listed.size = N) (h : listed.getD i false = false) : left N (listed.setIfInBounds i true) + 1 ≤ left N listed := by
  unfold left
  have hlt : ∀ (l : List Nat), l.Nodup → i ∈ l → (l.filter fun k => !(listed.setIfInBounds i true).getD k false).length + 1 ≤ (l.filter fun k => !listed.getD k false).length := by
    intro l
    induction l with
    | nil => intro _ h; cases h
    | cons x r ih =>
      intro hn hm
      have hget : ∀ k, k ≠ i → (listed.setIfInBounds i true).getD k false = listed.getD k false := fun k hk => getD_set_ne false (Ne.symm hk)
      obtain ⟨hx, hr⟩ := List.nodup_cons.1 hn
      by_cases hxi : x = i
      · subst hxi
        have h1 : (listed.setIfInBounds x true).getD x false = true := by simp [hl, hi]
        rw [List.filter_cons_of_neg (by rw [h1]; simp), List.filter_cons_of_pos (by rw [h]; simp)]
        have : (r.filter fun k => !(listed.setIfInBounds x true).getD k false) = r.filter fun k => !listed.getD k false := List.filter_congr fun k hk => by rw [hget k (fun hh => hx (hh ▸ hk))]
        rw [this]
        simp
      · have hm' : i ∈ r := by
          rcases List.mem_cons.1 hm with h | h
          · exact absurd h.symm hxi
          · exact h
        have := ih hr hm'
        by_cases hb : listed.getD x false = true
        · rw [List.filter_cons_of_neg (by rw [hget x hxi, hb]; simp), List.filter_cons_of_neg (by rw [hb]; simp)]; exact this
        · rw [Bool.not_eq_true] at hb
          rw [List.filter_cons_of_pos (by rw [hget x hxi, hb]; simp), List.filter_cons_of_pos (by rw [hb]; simp)]
          simp only [List.length_cons]; omega
  exact hlt _ List.nodup_range (List.mem_range.2 hi)
theorem left_zero {N : Nat} {listed : Array Bool} (h : left N listed = 0) : ∀ k, k < N → listed.getD k false = true := by
  intro k hk
  unfold left at h
  cases hb : listed.getD k false with
  | true => rfl
  | false =>
    exfalso
    have hm : k ∈ (List.range N).filter fun k => !listed.getD k false := List.mem_filter.2 ⟨List.mem_range.2 hk, by rw [hb]; rfl⟩
    rw [List.eq_nil_of_length_eq_zero h] at hm
    cases hm
theorem draw_region (hT : ∀ t ti, look tb.ty t = some ti → TyOk P t ti) (hE : ∀ t, has tb.eq t = true → EqOk P t) (hok : ∀ f args, Ok (call f args)) (hcall : CallOk P B0 call) {ops : Array Oper} {Q : Exit → Act → World → Prop} {N : Nat} (hN : fitsOps N ops.toList)
    {G : Gh} {w : World} {ds : List Deferred} {fr tm : Fr} {σ τ : Sto} {a : Act} (hst : still ops.toList = true) (h : Runs (drawOps tb call ops.toList ops.toList (pres ops.toList []) 0 [] tm) σ fr τ) (hf : FrOk G tm a) (hs : a.tmps.size = N) (hd : a.defers = ds)
    (I : Inv B0 G σ.c L σ.s w) (hB0 : B0 ≤ w.heap.size) (hL : τ.c ≤ L)
    (hQ : ∀ a' w' G', FrOk G' fr a' → a'.tmps.size = N → a'.defers = ds → Inv B0 G' τ.c L τ.s w' → Below B0 w w' → G.le G' → Q .normal a' w') :
    wpAny P .any ops Q ops.size (Array.replicate ops.size false) a w := by
  obtain ⟨pt, RR, WW, p0, pN, hstep, hsep⟩ := draw_trace hok ops.toList _ 0 [] tm σ fr τ I.full h
  rw [Array.length_toList] at pN
  have hquiet := quietT_inv ops.toList (pres ops.toList []) 0 hst
  -- the numbers of names go up
  have hcs : ∀ k, k < ops.size → (pt k).c ≤ (pt (k + 1)).c := fun k hk => (hstep k ops[k] (by rw [Array.getElem?_toList]; exact Array.getElem?_eq_getElem hk)).does.le
  have hmono : ∀ j k, j ≤ k → k ≤ ops.size → (pt j).c ≤ (pt k).c := by
    intro j k hjk hk
    induction k with
    | zero => obtain rfl : j = 0 := by omega
              exact Nat.le_refl _
    | succ k ih =>
      rcases Nat.lt_or_ge j (k + 1) with h | h
      · exact Nat.le_trans (ih (by omega) (by omega)) (hcs k (by omega))
      · obtain rfl : j = k + 1 := by omega
        exact Nat.le_refl _
  have hcL : ∀ k, k ≤ ops.size → (pt k).c ≤ L := fun k hk => by
    have := hmono k ops.size hk (Nat.le_refl _)
    rw [pN] at this
    exact Nat.le_trans this hL
  have hfresh : ∀ k, k ≤ ops.size → ∀ n, (pt k).c ≤ n → n < L → (pt k).s.get n = .none := by
    intro k
    induction k with
    | zero => intro _ n h1 h2; rw [p0] at h1 ⊢; exact I.fresh n h1 h2
    | succ k ih =>
      intro hk n h1 h2
      have st := hstep k ops[k] (by rw [Array.getElem?_toList]; exact Array.getElem?_eq_getElem (by omega))
      have hle := st.does.le
      rw [st.does.same n (fun hw => by rcases st.inW n hw with h | h <;> omega) (.inr h1)]
      exact ih (by omega) n (by omega) h2
  have hfull : ∀ k, k ≤ ops.size → Tm.Full depth (pt k).s := by
    intro k hk
    cases k with
    | zero => rw [p0]; exact I.full
    | succ k => exact (hstep k ops[k] (by rw [Array.getElem?_toList]; exact Array.getElem?_eq_getElem (by omega))).does.full
  -- places
  let mem : Nat → Key → DV := fun k key => match key with | .inl n => (pt k).s.get n | .inr t => (pt k).tm.get t
  let Wk : Nat → Key → Prop := fun k key => match key with | .inl n => n ∈ WW k ∨ ((pt k).c ≤ n ∧ n < (pt (k + 1)).c) | .inr t => ∃ o, ops[k]? = some o ∧ o.dst = some t
  let Rk : Nat → Key → Prop := fun k key => match key with | .inl n => n ∈ RR k | .inr t => ∃ o, ops[k]? = some o ∧ bit (lookM ops.toList o) t = true
  have F1 : ∀ k key, k < ops.size → ¬ Wk k key → mem (k + 1) key = mem k key := by
    intro k key hk hw
    have st := hstep k ops[k] (by rw [Array.getElem?_toList]; exact Array.getElem?_eq_getElem hk)
    cases key with
    | inl n =>
      refine st.does.same n (fun hh => hw (.inl hh)) ?_
      rcases Nat.lt_or_ge n (pt k).c with h | h
      · exact .inl h
      · exact .inr (by rcases Nat.lt_or_ge n (pt (k + 1)).c with h' | h'
                       · exact absurd (.inr ⟨h, h'⟩) hw
                       · exact h')
    | inr t =>
      obtain ⟨d, he⟩ := oper_put hok st.runs
      show (pt (k + 1)).tm.get t = (pt k).tm.get t
      rw [he, get_putT, if_neg]
      exact fun hh => hw ⟨ops[k], Array.getElem?_eq_getElem hk, hh⟩
  have F2 : ∀ j k, j < k → k < ops.size → ¬ Ahd (pres ops.toList []) k j → ∀ key, (Wk j key → ¬ Rk k key ∧ ¬ Wk k key) ∧ (Wk k key → ¬ Rk j key) := by
    intro j k hjk hk hna key
    have hjs : j < ops.size := by omega
    have ek : ops[k]? = some ops[k] := Array.getElem?_eq_getElem hk
    have ej : ops[j]? = some ops[j] := Array.getElem?_eq_getElem hjs
    obtain ⟨p, hp, -, hcl⟩ := hquiet k ops[k] (by rw [Array.getElem?_toList]; exact ek)
    have hnb : ¬ bit p j = true := fun hb => hna ⟨p, hp, hb⟩
    have hclear := (hcl j ops[j] (by omega) (by rw [Array.getElem?_toList]; exact ej)).resolve_left hnb
    have hap := ((hsep k p (by simpa using hk) hp).2 j hjk).resolve_left (by rw [Nat.zero_add]; exact hnb)
    have stk := hstep k ops[k] (by rw [Array.getElem?_toList]; exact ek)
    have stj := hstep j ops[j] (by rw [Array.getElem?_toList]; exact ej)
    have hle1 := hcs j hjs
    have hle2 := hmono (j + 1) k (by omega) (by omega)
    have hle3 := hcs k hk
    cases key with
    | inl n =>
      obtain ⟨a1, a2, a3⟩ := hap
      have noR : (n ∈ WW j ∨ ((pt j).c ≤ n ∧ n < (pt (j + 1)).c)) → n ∉ RR k := by
        intro hw hr
        have hn1 : n < (pt (j + 1)).c := by
          rcases hw with hw | hw
          · rcases stj.inW n hw with h | h <;> omega
          · exact hw.2
        have hrk : n ∈ belowL (pt k).c (RR k) := mem_belowL.2 ⟨hr, by omega⟩
        rcases Nat.lt_or_ge n (pt j).c with h | h
        · rcases hw with hw | hw
          · exact a1 n (mem_belowL.2 ⟨hw, h⟩) hrk
          · omega
        · exact a3 n hrk ⟨h, hn1⟩
      refine ⟨fun hw => ⟨noR hw, fun hw2 => ?_⟩, fun hw hr => ?_⟩
      · have hn1 : n < (pt (j + 1)).c := by
          rcases hw with hw | hw
          · rcases stj.inW n hw with h | h <;> omega
          · exact hw.2
        rcases hw2 with hw2 | hw2
        · exact noR hw (stk.does.sub n hw2)
        · omega
      · have hr : n ∈ RR j := hr
        have hn1 : n < (pt k).c := by rcases stj.inR n hr with h | h <;> omega
        rcases hw with hw | hw
        · rcases Nat.lt_or_ge n (pt j).c with h | h
          · exact a2 n (mem_belowL.2 ⟨hw, hn1⟩) (mem_belowL.2 ⟨hr, h⟩)
          · exact a3 n (mem_belowL.2 ⟨stk.does.sub n hw, hn1⟩) ⟨h, by rcases stj.inR n hr with h' | h' <;> omega⟩
        · omega
    | inr t =>
      obtain ⟨b1, b2⟩ := hclear t
      refine ⟨fun ⟨o, ho, hdst⟩ => ?_, fun ⟨o, ho, hdst⟩ ⟨o2, ho2, hl2⟩ => ?_⟩
      · rw [ej] at ho; cases ho
        obtain ⟨b3, b4⟩ := b1 hdst
        refine ⟨fun ⟨o2, ho2, hl2⟩ => ?_, fun ⟨o2, ho2, hl2⟩ => ?_⟩
        · rw [ek] at ho2; cases ho2
          rw [b3] at hl2; cases hl2
        · rw [ek] at ho2; cases ho2
          exact b4 hl2
      · rw [ek] at ho; cases ho
        rw [ej] at ho2; cases ho2
        rw [b2 hdst] at hl2; cases hl2
  have hbackE : ∀ k o, ops[k]? = some o → ∀ e ∈ o.after, Region.binds .any e = true → e.on < k := by
    intro k o ho e he hb
    obtain ⟨p, -, h2, -⟩ := hquiet k o (by rw [Array.getElem?_toList]; exact ho)
    rw [Nat.zero_add] at h2
    exact back_inv h2 e (Array.mem_toList_iff.2 he) hb
  -- the steps
  have main : ∀ (fuel : Nat) (listed : Array Bool) (b : Act) (v : World), listed.size = ops.size → left ops.size listed ≤ fuel → Closed ops (fun k => listed.getD k false = true) →
      (∃ G' s, Tm.Full depth s ∧ (∀ n, s.get n = memD mem Wk (fun k => listed.getD k false = true) ops.size (.inl n)) ∧ Inv B0 G' L L s v ∧ G.le G' ∧ Below B0 w v ∧ (∀ t, Rep G' (memD mem Wk (fun k => listed.getD k false = true) ops.size (.inr t)) (b.eval (.tmp t))) ∧ b.tmps.size = N ∧ b.defers = ds) →
      wpAny P .any ops Q fuel listed b v := by
    intro fuel
    have done : ∀ (listed : Array Bool) (b : Act) (v : World), (∀ k, k < ops.size → listed.getD k false = true) →
        (∃ G' s, Tm.Full depth s ∧ (∀ n, s.get n = memD mem Wk (fun k => listed.getD k false = true) ops.size (.inl n)) ∧ Inv B0 G' L L s v ∧ G.le G' ∧ Below B0 w v ∧ (∀ t, Rep G' (memD mem Wk (fun k => listed.getD k false = true) ops.size (.inr t)) (b.eval (.tmp t))) ∧ b.tmps.size = N ∧ b.defers = ds) → Q .normal b v := by
      rintro listed b v hall ⟨G', s, h1, h2, h3, h4, h5, h6, h7, h8⟩
      have hm := fun key => memD_all (mem := mem) (Wk := Wk) (D := fun k => listed.getD k false = true) F1 hall key ops.size (Nat.le_refl _)
      refine hQ b v G' (fun t => ?_) h7 h8 ?_ h5 h4
      · have := h6 t
        rw [hm] at this
        have he : mem ops.size (.inr t) = fr.get t := by show (pt ops.size).tm.get t = _; rw [pN]
        rwa [he] at this
      · have hfl := hfull ops.size (Nat.le_refl _)
        have hfre := hfresh ops.size (Nat.le_refl _)
        rw [pN] at hfl hfre
        refine h3.congr hfl (fun n => ?_) hfre
        rw [h2, hm]
        show _ = (pt ops.size).s.get n
        rw [pN]
    have ready0 : ∀ (listed : Array Bool), listed.size = ops.size → Region.ready .any ops listed = [] → ∀ k, k < ops.size → listed.getD k false = true := by
      intro listed hsz hr k
      induction k using Nat.strongRecOn with
      | _ k ih =>
        intro hk
        cases hb : listed.getD k false with
        | true => rfl
        | false =>
          exfalso
          have : k ∈ Region.ready .any ops listed := mem_ready.2 ⟨by
            have hk' : k < listed.size := by omega
            simp only [Array.getD, hk', dif_pos] at hb ⊢
            exact hb, ops[k], Array.getElem?_eq_getElem hk, fun e he hbd => ih e.on (hbackE k _ (Array.getElem?_eq_getElem hk) e he hbd) (by have := hbackE k _ (Array.getElem?_eq_getElem hk) e he hbd; omega)⟩
          rw [hr] at this; cases this
    induction fuel with
    | zero =>
      intro listed b v hsz hle hcl hJ
      have hall := left_zero (Nat.le_zero.1 hle)
      refine ⟨?_, done listed b v hall hJ⟩
      apply List.eq_nil_iff_forall_not_mem.2
      intro k hk
      obtain ⟨h1, o, ho, -⟩ := mem_ready.1 hk
      have hk' : k < ops.size := (Array.getElem?_eq_some_iff.1 ho).1
      have h2 := hall k hk'
      have hk2 : k < listed.size := by omega
      simp only [Array.getD, hk2, dif_pos] at h1 h2
      rw [h1] at h2; cases h2
    | succ fuel ih =>
      intro listed b v hsz hle hcl hJ
      refine ⟨fun hr => done listed b v (ready0 listed hsz hr) hJ, fun i hi => ?_⟩
      obtain ⟨hi1, o, ho, hedge⟩ := mem_ready.1 hi
      have his : i < ops.size := (Array.getElem?_eq_some_iff.1 ho).1
      have hi2 : listed.getD i false = false := by
        have hk2 : i < listed.size := by omega
        simp only [Array.getD, hk2, dif_pos] at hi1 ⊢
        exact hi1
      obtain ⟨G', s, h1, h2, h3, h4, h5, h6, h7, h8⟩ := hJ
      have hD : ¬ (listed.getD i false = true) := by rw [hi2]; simp
      have ha : ∀ j, j < i → Ahd (pres ops.toList []) i j → listed.getD j false = true := fun j _ hah => ahd_closed hcl i i o (Nat.le_refl _) ho hedge j hah
      have hc : ∀ k, i < k → k < ops.size → listed.getD k false = true → ¬ Ahd (pres ops.toList []) k i := fun k _ hks hk hah => hD (ahd_closed hcl k k ops[k] (Nat.le_refl _) (Array.getElem?_eq_getElem hks) (hcl k _ (Array.getElem?_eq_getElem hks) hk) i hah)
      have hat := fun (key : Key) (hk : Rk i key ∨ Wk i key) => memD_at (mem := mem) (Wk := Wk) (D := fun k => listed.getD k false = true) (Rk := Rk) F1 F2 his hD ha hc hk
      have st := hstep i o (by rw [Array.getElem?_toList]; exact ho)
      obtain ⟨s2, r1, r2, r3⟩ := st.does.again s h1 fun n hn => by
        rw [h2, hat (.inl n) (by rcases hn with hn | hn
                                 · exact .inl hn
                                 · exact .inr (.inr hn))]
      have hcle := hcL (i + 1) (by omega)
      have hI : Inv B0 G' (pt i).c (pt (i + 1)).c s v := h3.congr h1 (fun _ => rfl) fun n hn1 hn2 => by
        rw [h2, hat (.inl n) (.inr (.inr ⟨hn1, hn2⟩))]
        exact hfresh i (by omega) n hn1 (by omega)
      have hlook : ∀ t, (.tmp t ∈ o.op.operands ∨ guardT ops o t) → Rep G' ((pt i).tm.get t) (b.eval (.tmp t)) := fun t ht => by
        have := h6 t
        rw [hat (.inr t) (.inl ⟨o, ho, bit_lookM ht⟩)] at this
        exact this
      refine oper_step (σ := .mk true (pt i).c s [] []) (L := (pt (i + 1)).c) hT hE hok hcall r1 (fun t ht => hlook t (.inl ht)) (fun t ht => hlook t (.inr ht)) (fun n (hn : n ∈ []) => (List.not_mem_nil hn).elim) hI (by have := h5.size; omega) (Nat.le_refl _) ho fun v' d w' G'' e1 e2 e3 e4 e5 => ?_
      have hdst : ∀ d, o.dst = some d → d < b.tmps.size := fun d hd => by rw [h7]; exact hN o (by rw [← Array.getElem?_toList] at ho; exact List.mem_of_getElem? ho) d hd
      have hD' : ∀ k, k < ops.size → ((listed.setIfInBounds i true).getD k false = true ↔ (listed.getD k false = true ∨ k = i)) := fun k hk => by
        by_cases hki : k = i
        · subst hki
          simp [hsz, his]
        · rw [getD_set_ne false (Ne.symm hki)]; simp [hki]
      have hadd := fun (key : Key) => open Classical in memD_add (mem := mem) (Wk := Wk) (D := fun k => listed.getD k false = true) (Rk := Rk) F2 his hD hc key
      have hcon := fun (key : Key) => memD_congr (mem := mem) (Wk := Wk) hD' key ops.size (Nat.le_refl _)
      refine ih _ _ _ (by simp [hsz]) (by have := left_set his hsz hi2; omega) (fun k q hq hk e he hbd => ?_) ⟨G'', s2, r2, fun n => ?_, ?_, h4.trans e3, h5.trans e5, fun t => ?_, by rw [put_size]; exact h7, by rw [put_defs]; exact h8⟩
      · have hks : k < ops.size := (Array.getElem?_eq_some_iff.1 hq).1
        rcases (hD' k hks).1 hk with hk | rfl
        · exact getD_set_true (hcl k q hq hk e he hbd)
        · rw [ho] at hq; cases hq
          exact getD_set_true (hedge e he hbd)
      · rw [r3, hcon, hadd, h2]
        open Classical in
        exact ite_same (Iff.rfl) _ _
      · exact e4.congr r2 (fun _ => rfl) fun n h1 h2 => by omega
      · rw [hcon, hadd, eval_put hdst]
        by_cases ht : o.dst = some t
        · rw [if_pos ht]
          have hw : Wk i (.inr t) := ⟨o, ho, ht⟩
          rw [if_pos hw]
          have e1 : (pt (i + 1)).tm = putT (pt i).tm o.dst d := e1
          show Rep G'' ((pt (i + 1)).tm.get t) _
          rw [e1, get_putT, if_pos ht]
          exact e2
        · rw [if_neg ht]
          have hw : ¬ Wk i (.inr t) := fun ⟨o2, ho2, hd2⟩ => by rw [ho] at ho2; cases ho2; exact ht hd2
          rw [if_neg hw]
          exact (h6 t).mono e3
  refine main ops.size _ a w (by simp) ?_ (fun k o ho hk => ?_) ⟨G, σ.s, I.full, fun n => ?_, ?_, .refl G, .refl _ _, fun t => ?_, hs, hd⟩
  · unfold left
    exact Nat.le_trans (List.length_filter_le _ _) (by simp)
  · exfalso
    have : k < ops.size := (Array.getElem?_eq_some_iff.1 ho).1
    simp [this] at hk
  · rw [memD_none (fun k hk => by
      by_cases h : k < ops.size
      · simp [h] at hk
      · simp [h] at hk)]
    show _ = (pt 0).s.get n
    rw [p0]
  · exact I.congr I.full (fun _ => rfl) fun n h1 h2 => by omega
  · rw [memD_none (fun k hk => by
      by_cases h : k < ops.size
      · simp [h] at hk
      · simp [h] at hk)]
    have he : mem 0 (.inr t) = tm.get t := by show (pt 0).tm.get t = _; rw [p0]
    rw [he]
    exact hf t
end Go.E
end
section
namespace Go.E
open Go Go.RowKit
variable {P : Program} {B0 L : Nat} {tb : Tab} {call : Nat → List DV → M DV}
def FrT (G : Gh) (tm : Tm) (a : Act) : Prop := ∀ t, Rep G (tm.get t) (a.eval (.tmp t))
def Blank (V : Nat) (tm : Tm) : Prop := ∀ t, bit V t = false → tm.get t = .none
theorem Tm.get_put_or (v : DV) : ∀ (t : Tm) (x : Nat), (t.put v x).get x = v ∨ (t.put v x).get x = .none := by
  intro t
  induction t with
  | e => intro x; exact .inr rfl
  | n u l r il ir =>
    intro x
    cases x with
    | zero => exact .inl rfl
    | succ m =>
      rw [Tm.put_succ]
      by_cases h : m % 2 = 0
      · rw [if_pos h, Tm.get_succ, if_pos h]; exact il _
      · rw [if_neg h, Tm.get_succ, if_neg h]; exact ir _
theorem save_get {V : Nat} {m : Tm} (hb : Blank V m) : ∀ (l : Loc), Blank V (saveT V l m) ∧ ∀ t, (saveT V l m).get t = .none ∨ (saveT V l m).get t = (Fr.mk l m).get t
  | .nil => ⟨hb, fun t => .inr rfl⟩
  | .cons u v r => by
    obtain ⟨h1, h2⟩ := save_get hb r
    have hget : ∀ t, (Fr.mk (.cons u v r) m).get t = if t = u then v else (Fr.mk r m).get t := fun t => beq_ite _ _ _ _
    rw [saveT]
    split
    · rename_i hu
      refine ⟨fun t ht => ?_, fun t => ?_⟩
      · rw [Tm.get_put_ne v _ u t (fun hh => by subst hh; rw [hu] at ht; cases ht)]; exact h1 t ht
      · rw [hget]
        by_cases h : t = u
        · subst h
          rw [if_pos rfl]
          exact (Tm.get_put_or v _ t).symm
        · rw [if_neg h, Tm.get_put_ne v _ u t h]; exact h2 t
    · rename_i hu
      refine ⟨h1, fun t => ?_⟩
      rw [hget]
      by_cases h : t = u
      · subst h
        exact .inl (h1 t (by simpa using hu))
      · rw [if_neg h]; exact h2 t
theorem FrT.save {G : Gh} {V : Nat} {l : Loc} {m : Tm} {a : Act} (h : FrOk G (.mk l m) a) (hb : Blank V m) : FrT G (saveT V l m) a ∧ Blank V (saveT V l m) := by
  obtain ⟨h1, h2⟩ := save_get hb l
  refine ⟨fun t => ?_, h1⟩
  rcases h2 t with h3 | h3 <;> rw [h3]
  · exact rep_none
  · exact h t
def Fr.old : Fr → Tm | .mk _ m => m
theorem old_put (tm : Fr) (dst : Option Nat) (d : DV) : (putT tm dst d).old = tm.old := by
  obtain ⟨l, m⟩ := tm
  cases dst <;> rfl
theorem old_ops (hok : ∀ f args, Ok (call f args)) {ops : List Oper} : ∀ (r : List Oper) (tm fr : Fr) (σ τ : Sto), Runs (evOps tb call ops r tm) σ fr τ → fr.old = tm.old
  | [], tm, fr, σ, τ, h => by
    obtain ⟨rfl, -⟩ := pur_inv (show Runs (pur tm) σ fr τ from h)
    rfl
  | o :: r, tm, fr, σ, τ, h => by
    have h : Runs (bind (evOper tb call ops o tm) fun tm' => evOps tb call ops r tm') σ fr τ := h
    obtain ⟨tm', σ1, h1, h2⟩ := h.split (ok_evOper hok _ _ _)
    obtain ⟨d, rfl⟩ := oper_put hok h1
    rw [old_ops hok r _ _ _ _ h2, old_put]
theorem old_draw (hok : ∀ f args, Ok (call f args)) {ops : List Oper} {ps : List Nat} {tm fr : Fr} {σ τ : Sto} (hf : Tm.Full depth σ.s) (h : Runs (drawOps tb call ops ops ps 0 [] tm) σ fr τ) : fr.old = tm.old := by
  obtain ⟨pt, RR, WW, p0, pN, hstep, -⟩ := draw_trace hok ops ps 0 [] tm σ fr τ hf h
  have key : ∀ k, k ≤ ops.length → (pt k).tm.old = tm.old := by
    intro k
    induction k with
    | zero => intro _; rw [p0]
    | succ k ih =>
      intro hk
      obtain ⟨d, he⟩ := oper_put hok (hstep k ops[k] (List.getElem?_eq_getElem (by omega))).runs
      rw [he, old_put]; exact ih (by omega)
  have := key ops.length (Nat.le_refl _)
  rw [pN] at this
  exact this
def exitOf : Ex → Exit
  | .normal => .normal
  | .exit id => .exit id
  | .ret => .ret
def fitsC (N : Nat) : Code → Bool
  | .region _ ops _ => ops.toList.all fun o => match o.dst with | none => true | some d => Nat.blt d N
  | .seq a b => fitsC N a && fitsC N b
  | .cond _ a b => fitsC N a && fitsC N b
  | .block _ b => fitsC N b
  | .loop b => fitsC N b
  | _ => true
theorem fitsC_region {N id : Nat} {ops : Array Oper} {draw : Bool} (h : fitsC N (.region id ops draw) = true) : fitsOps N ops.toList := fun o ho d hd => by
  have := List.all_eq_true.1 h o ho
  rw [hd] at this
  exact Nat.le_of_ble_eq_true this
theorem next_inv {o1 o : Out} {f : Tm → M Out} {σ τ : Sto} (h : Runs (next o1 f) σ o τ) : (o1.ex = .normal ∧ Runs (f o1.tm) σ o τ) ∨ (o1.ex ≠ .normal ∧ o = o1 ∧ τ = σ) := by
  obtain ⟨e, tm⟩ := o1
  cases e with
  | normal => exact .inl ⟨rfl, h⟩
  | exit id => obtain ⟨rfl, rfl⟩ := pur_inv (show Runs (pur _) σ o τ from h); exact .inr ⟨by simp, rfl, rfl⟩
  | ret => obtain ⟨rfl, rfl⟩ := pur_inv (show Runs (pur _) σ o τ from h); exact .inr ⟨by simp, rfl, rfl⟩
theorem least_of {p : Nat → Prop} : ∀ n, p n → ∃ m, p m ∧ ∀ k, k < m → ¬ p k := by
  intro n
  induction n using Nat.strongRecOn with
  | _ n ih =>
    intro h
    by_cases hk : ∃ k, k < n ∧ p k
    · obtain ⟨k, h1, h2⟩ := hk
      exact ih k h1 h2
    · exact ⟨n, h, fun k hk' hp => hk ⟨k, hk', hp⟩⟩
open Classical in
/-- The least number, if there is one. -/
noncomputable def leastN (p : Nat → Prop) : Nat := if h : ∃ m, p m ∧ ∀ k, k < m → ¬ p k then h.choose else 0
theorem leastN_spec {p : Nat → Prop} {n : Nat} (h : p n) : p (leastN p) ∧ leastN p ≤ n := by
  have hex : ∃ m, p m ∧ ∀ k, k < m → ¬ p k := least_of n h
  have h1 := hex.choose_spec
  unfold leastN
  rw [dif_pos hex]
  refine ⟨h1.1, ?_⟩
  rcases Nat.lt_or_ge n hex.choose with h2 | h2
  · exact absurd h (h1.2 n h2)
  · exact h2
structure At (B0 L : Nat) (G0 : Gh) (w0 : World) (N V : Nat) (ds : List Deferred) (tm : Tm) (c : Nat) (s : Tm) (G : Gh) (a : Act) (w : World) : Prop where
  fr : FrT G tm a
  blank : Blank V tm
  size : a.tmps.size = N
  defers : a.defers = ds
  inv : Inv B0 G c L s w
  below : Below B0 w0 w
  le : G0.le G
theorem At.heap {G0 G : Gh} {w0 w : World} {N V c : Nat} {ds : List Deferred} {tm s : Tm} {a : Act} (h : At B0 L G0 w0 N V ds tm c s G a w) (h0 : B0 ≤ w0.heap.size) : B0 ≤ w.heap.size := Nat.le_trans h0 h.below.size
theorem code_ok (hmix : P.follows .mixedOrders = true) (hT : ∀ t ti, look tb.ty t = some ti → TyOk P t ti) (hE : ∀ t, has tb.eq t = true → EqOk P t) (hok : ∀ f args, Ok (call f args)) (hcall : CallOk P B0 call) {fuel V N : Nat} {G0 : Gh} {w0 : World} (h0 : B0 ≤ w0.heap.size) {ds : List Deferred} (x : Code) :
    ∀ (tm : Tm) (σ : Sto) (o : Out) (τ : Sto) (a : Act) (w : World) (G : Gh) (Q : Exit → Act → World → Prop), fitsC N x = true → Runs (evCode tb call fuel V x tm) σ o τ → At B0 L G0 w0 N V ds tm σ.c σ.s G a w → σ.Good → τ.c ≤ L →
      (∀ a' w' G', At B0 L G0 w0 N V ds o.tm τ.c τ.s G' a' w' → Q (exitOf o.ex) a' w') → x.wp P Q a w := by
  induction x with
  | skip =>
    intro tm σ o τ a w G Q hfit h hA hg hL hQ
    obtain ⟨rfl, rfl⟩ := pur_inv (show Runs (pur _) σ o τ from h)
    exact wp_skip (hQ a w G hA)
  | label l =>
    intro tm σ o τ a w G Q hfit h hA hg hL hQ
    obtain ⟨rfl, rfl⟩ := pur_inv (show Runs (pur _) σ o τ from h)
    exact wp_label (hQ a w G hA)
  | exit id =>
    intro tm σ o τ a w G Q hfit h hA hg hL hQ
    obtain ⟨rfl, rfl⟩ := pur_inv (show Runs (pur _) σ o τ from h)
    exact wp_exit (hQ a w G hA)
  | ret =>
    intro tm σ o τ a w G Q hfit h hA hg hL hQ
    obtain ⟨rfl, rfl⟩ := pur_inv (show Runs (pur _) σ o τ from h)
    exact wp_ret (hQ a w G hA)
  | region id ops draw =>
    intro tm σ o τ a w G Q hfit h hA hg hL hQ
    have hN := fitsC_region hfit
    have h : Runs (evRegion tb call V ops.toList draw tm) σ o τ := h
    rw [evRegion_eq] at h
    cases draw with
    | false =>
      rw [if_neg (by simp)] at h
      obtain ⟨fr, σ1, h1, h2⟩ := h.split (ok_evOps hok _ _ _)
      obtain ⟨rfl, rfl⟩ := pur_inv h2
      have hold := old_ops hok _ _ _ _ _ h1
      obtain ⟨l, m⟩ := fr
      have hold : m = tm := hold
      subst hold
      refine wp_region ?_
      have := plain_ops (L := L) (Q := Q) hT hE hok hcall hN (w0 := w0) (G0 := G0) (ds := ds) ops.toList 0 (.mk .nil m) σ a w G rfl h1 hA.fr hA.size hA.defers hg hA.inv (hA.heap h0) hL hA.below hA.le fun a' w' G' q1 q2 q3 q4 q5 q6 => by
        obtain ⟨s1, s2⟩ := FrT.save q1 hA.blank
        exact hQ a' w' G' ⟨s1, s2, q2, q3, q4, q5, q6⟩
      rw [List.drop_zero] at this; exact this
    | true =>
      rw [if_pos rfl] at h
      split at h
      · rename_i hst
        obtain ⟨fr, σ1, h1, h2⟩ := h.split (ok_drawOps hok _ _ _ _ _ _)
        obtain ⟨rfl, rfl⟩ := pur_inv h2
        have hold := old_draw hok hA.inv.full h1
        obtain ⟨l, m⟩ := fr
        have hold : m = tm := hold
        subst hold
        refine wp_region_any hmix ?_
        exact draw_region hT hE hok hcall hN hst h1 hA.fr hA.size hA.defers (hA.inv.drew _) (hA.heap h0) hL fun a' w' G' q1 q2 q3 q4 q5 q6 => by
          obtain ⟨s1, s2⟩ := FrT.save q1 hA.blank
          exact hQ a' w' G' ⟨s1, s2, q2, q3, q4, hA.below.trans ((Below.refl _ _).drew.trans q5), hA.le.trans q6⟩
      · obtain ⟨fr, σ1, h1, h2⟩ := h.split Ok.fail
        exact (fail_inv h1).elim
  | seq x y hx hy =>
    intro tm σ o τ a w G Q hfit h hA hg hL hQ
    unfold fitsC at hfit
    rw [Bool.and_eq_true] at hfit
    have h : Runs (bind (evCode tb call fuel V x tm) fun o => next o (evCode tb call fuel V y)) σ o τ := h
    obtain ⟨o1, σ1, h1, h2⟩ := h.split (ok_evCode hok _ _ _ _)
    obtain ⟨k1, k2, k3⟩ := ok_step (ok_evCode hok _ _ _ _) hA.inv.full hg h1
    obtain ⟨k4, -, -⟩ := ok_step (ok_next _ _ (ok_evCode hok _ _ _)) k2 k3 h2
    refine wp_seq (hx tm σ o1 σ1 a w G _ hfit.1 h1 hA hg (by omega) fun a' w' G' hA' => ?_)
    rcases next_inv h2 with ⟨he, h3⟩ | ⟨he, rfl, rfl⟩
    · rw [he]
      exact hy o1.tm σ1 o τ a' w' G' Q hfit.2 h3 hA' k3 hL hQ
    · have := hQ a' w' G' hA'
      obtain ⟨e, tm1⟩ := o
      cases e with
      | normal => exact absurd rfl he
      | exit id => exact this
      | ret => exact this
  | cond c x y hx hy =>
    intro tm σ o τ a w G Q hfit h hA hg hL hQ
    unfold fitsC at hfit
    rw [Bool.and_eq_true] at hfit
    have h : Runs (evCond tm c (evCode tb call fuel V x tm) (evCode tb call fuel V y tm)) σ o τ := h
    unfold evCond at h
    split at h
    · rename_i t he
      have hr : Rep G (eval (.mk .nil tm) c) (a.eval c) := rep_operand fun t _ => hA.fr t
      rw [he] at hr
      have hr := rep_bool hr
      refine wp_cond hr ?_
      cases t with
      | true => exact hx tm σ o τ a w G Q hfit.1 h hA hg hL hQ
      | false => exact hy tm σ o τ a w G Q hfit.2 h hA hg hL hQ
    · exact (fail_inv h).elim
  | block id x hx =>
    intro tm σ o τ a w G Q hfit h hA hg hL hQ
    have h : Runs (bind (evCode tb call fuel V x tm) (unblock id)) σ o τ := h
    obtain ⟨o1, σ1, h1, h2⟩ := h.split (ok_evCode hok _ _ _ _)
    obtain ⟨e, tm1⟩ := o1
    have hst : τ = σ1 := by
      cases e with
      | normal => exact (pur_inv (show Runs (pur _) σ1 o τ from h2)).2
      | exit id' => rcases cond_inv (show Runs (bif Nat.beq id' id then pur ⟨.normal, tm1⟩ else pur ⟨.exit id', tm1⟩) σ1 o τ from h2) with ⟨-, h⟩ | ⟨-, h⟩ <;> exact (pur_inv h).2
      | ret => exact (pur_inv (show Runs (pur _) σ1 o τ from h2)).2
    subst hst
    refine wp_block (hx tm σ ⟨e, tm1⟩ τ a w G _ (by unfold fitsC at hfit; exact hfit) h1 hA hg hL fun a' w' G' hA' => ?_)
    cases e with
    | normal =>
      obtain ⟨rfl, -⟩ := pur_inv (show Runs (pur _) τ o τ from h2)
      exact hQ a' w' G' hA'
    | ret =>
      obtain ⟨rfl, -⟩ := pur_inv (show Runs (pur _) τ o τ from h2)
      exact hQ a' w' G' hA'
    | exit id' =>
      show (if id' = id then Q .normal a' w' else Q (.exit id') a' w')
      rcases cond_inv (show Runs (bif Nat.beq id' id then pur ⟨.normal, tm1⟩ else pur ⟨.exit id', tm1⟩) τ o τ from h2) with ⟨hb, h⟩ | ⟨hb, h⟩
      · obtain ⟨rfl, -⟩ := pur_inv h
        rw [if_pos (Nat.eq_of_beq_eq_true hb)]
        exact hQ a' w' G' hA'
      · obtain ⟨rfl, -⟩ := pur_inv h
        rw [if_neg (fun hh => by rw [hh, Nat.beq_refl] at hb; cases hb)]
        exact hQ a' w' G' hA'
  | loop x hx =>
    intro tm σ o τ a w G Q hfit h hA hg hL hQ
    have h : Runs (iter (evCode tb call fuel V x) fuel tm) σ o τ := h
    let J : Act → World → Nat → Prop := fun a w k => ∃ tm σ G, Runs (iter (evCode tb call fuel V x) k tm) σ o τ ∧ At B0 L G0 w0 N V ds tm σ.c σ.s G a w ∧ σ.Good
    refine wp_loop (fun a w => ∃ k, J a w k) (fun a w => leastN (J a w)) ⟨fuel, tm, σ, G, h, hA, hg⟩ fun a w ⟨k0, hk0⟩ => ?_
    obtain ⟨hk, -⟩ := leastN_spec hk0
    generalize hkk : leastN (J a w) = k at hk
    obtain ⟨tm, σ, G, h, hA, hg⟩ := hk
    cases k with
    | zero => exact (fail_inv (show Runs (fail : M Out) σ o τ from h)).elim
    | succ k =>
      have h : Runs (bind (evCode tb call fuel V x tm) fun o => next o (iter (evCode tb call fuel V x) k)) σ o τ := h
      obtain ⟨o1, σ1, h1, h2⟩ := h.split (ok_evCode hok _ _ _ _)
      obtain ⟨k1, k2, k3⟩ := ok_step (ok_evCode hok _ _ _ _) hA.inv.full hg h1
      obtain ⟨k4, -, -⟩ := ok_step (ok_next _ _ (ok_iter _ (ok_evCode hok _ _ _) _)) k2 k3 h2
      refine hx tm σ o1 σ1 a w G _ (by unfold fitsC at hfit; exact hfit) h1 hA hg (by omega) fun a' w' G' hA' => ?_
      rcases next_inv h2 with ⟨he, h3⟩ | ⟨he, rfl, rfl⟩
      · rw [he]
        have hJ : J a' w' k := ⟨o1.tm, σ1, G', h3, hA', k3⟩
        exact ⟨⟨k, hJ⟩, by have := (leastN_spec hJ).2; omega⟩
      · have := hQ a' w' G' hA'
        obtain ⟨e, tm1⟩ := o
        cases e with
        | normal => exact absurd rfl he
        | exit id => exact this
        | ret => exact this
  | _ =>
    intro tm σ o τ a w G Q hfit h
    exact (fail_inv (show Runs (fail : M Out) σ o τ from h)).elim
end Go.E
end
section
namespace Go.E
open Go Go.RowKit
variable {P : Program} {B0 L : Nat} {tb : Tab} {call : Nat → List DV → M DV}
def PrimOk (P : Program) (f : Nat) (g : List DV → M DV) : Prop := (∀ args, Ok (g args)) ∧ ∀ (B0 L : Nat) (G : Gh) (w : World) (ds : List DV) (vs : List Value) (σ : Sto) (d : DV) (σ' : Sto), Runs (g ds) σ d σ' → Reps G ds vs → σ.Good → Inv B0 G σ.c L σ.s w → B0 ≤ w.heap.size → σ'.c ≤ L → Answers P B0 L G w f vs d σ'
structure FnOk (P : Program) (f : Nat) (fn : Func) : Prop where
  here : P.funcs[f]? = some fn
  name : (fn.name == "runtime.NumGoroutine") = false
  fits : (match fn.body with | none => true | some b => fitsC fn.ntmps b) = true
structure TabOk (P : Program) (tb : Tab) : Prop where
  mixed : P.follows .mixedOrders = true
  ty : ∀ t ti, look tb.ty t = some ti → TyOk P t ti
  eq : ∀ t, has tb.eq t = true → EqOk P t
  fn : ∀ f V fn, look tb.fn f = some (V, fn) → FnOk P f fn
  prim : ∀ f g, look tb.prim f = some g → PrimOk P f g
noncomputable def layT : List DV → Nat → Tm → Tm
  | [], _, t => t
  | a :: r, i, t => layT r (i + 1) (t.put a i)
theorem lay_is {β : Type} : ∀ (args : List DV) (i : Nat) (t : Tm) (k : Tm → β), Tm.lay args i t k = k (layT args i t)
  | [], i, t, k => rfl
  | a :: r, i, t, k => by
    show t.set a i (fun t' => seqN (Nat.succ i) fun i' => Tm.lay r i' t' k) = _
    rw [Tm.set_eq, seqN_eq]
    exact lay_is r _ _ _
theorem layT_get : ∀ (args : List DV) (i : Nat) (t : Tm) (x : Nat), (x < i → (layT args i t).get x = t.get x) ∧ (i + args.length ≤ x → (layT args i t).get x = t.get x) ∧
    (∀ j d, args[j]? = some d → (layT args i t).get (i + j) = .none ∨ (layT args i t).get (i + j) = d)
  | [], i, t, x => ⟨fun _ => rfl, fun _ => rfl, fun j d h => by cases h⟩
  | a :: r, i, t, x => by
    have h := layT_get r (i + 1) (t.put a i)
    refine ⟨fun hx => ?_, fun hx => ?_, fun j d hj => ?_⟩
    · rw [layT, (h x).1 (by omega), Tm.get_put_ne _ _ _ _ (by omega)]
    · simp only [List.length_cons] at hx
      rw [layT, (h x).2.1 (by omega), Tm.get_put_ne _ _ _ _ (by omega)]
    · rw [layT]
      cases j with
      | zero =>
        cases hj
        have h0 := (h i).1 (by omega)
        show (layT r (i + 1) (t.put a i)).get i = .none ∨ (layT r (i + 1) (t.put a i)).get i = a
        rw [h0]
        exact (Tm.get_put_or a t i).symm
      | succ j =>
        rw [List.getElem?_cons_succ] at hj
        have := (h x).2.2 j d hj
        rwa [show i + 1 + j = i + (j + 1) by omega] at this
theorem low_bits {V n : Nat} (h : (V + 1) % 2 ^ n = 0) : ∀ t, t < n → bit V t = true := by
  intro t ht
  rw [bit_eq]
  obtain ⟨k, hk⟩ : ∃ k, V + 1 = 2 ^ n * k := ⟨(V + 1) / 2 ^ n, by rw [Nat.mul_div_cancel' (Nat.dvd_of_mod_eq_zero h)]⟩
  have hpos : 0 < 2 ^ n := Nat.two_pow_pos n
  have hV : V % 2 ^ n = 2 ^ n - 1 := by
    cases k with
    | zero => omega
    | succ k =>
      have : V = 2 ^ n * k + (2 ^ n - 1) := by rw [Nat.mul_succ] at hk; omega
      rw [this, Nat.mul_add_mod, Nat.mod_eq_of_lt (by omega)]
  have h1 : (V % 2 ^ n).testBit t = V.testBit t := by rw [Nat.testBit_mod_two_pow]; simp [ht]
  rw [← h1, hV, Nat.testBit_two_pow_sub_one]
  simpa using ht
theorem lay_ok {G : Gh} {V n : Nat} {args : List DV} {vs : List Value} (hr : Reps G args vs) (hn : args.length ≤ n) (hV : (V + 1) % 2 ^ args.length = 0) {ds : List Deferred} :
    FrT G (layT args 0 (Tm.blank 10)) { tmps := vs.toArray ++ Array.replicate (n - vs.toArray.size) undef, defers := ds } ∧ Blank V (layT args 0 (Tm.blank 10)) := by
  have hl := hr.length
  have h := layT_get args 0 (Tm.blank 10)
  refine ⟨fun t => ?_, fun t ht => ?_⟩
  · rcases Nat.lt_or_ge t args.length with hlt | hge
    · obtain ⟨v, hv, hrep⟩ := hr.get (List.getElem?_eq_getElem hlt)
      have hev : Act.eval { tmps := vs.toArray ++ Array.replicate (n - vs.toArray.size) undef, defers := ds } (.tmp t) = v := by
        show (vs.toArray ++ Array.replicate (n - vs.toArray.size) undef).getD t undef = v
        have h1 : (vs.toArray ++ Array.replicate (n - vs.toArray.size) undef)[t]? = some v := by
          rw [Array.getElem?_append_left (by simp; omega)]
          simpa using hv
        rw [Array.getD_eq_getD_getElem?, h1]; rfl
      rw [hev]
      have := (h t).2.2 t _ (List.getElem?_eq_getElem hlt)
      rw [Nat.zero_add] at this
      rcases this with h2 | h2 <;> rw [h2]
      · exact rep_none
      · exact hrep
    · rw [(h t).2.1 (by omega), Tm.blank_get]; exact rep_none
  · rcases Nat.lt_or_ge t args.length with hlt | hge
    · rw [low_bits hV t hlt] at ht; cases ht
    · rw [(h t).2.1 (by omega), Tm.blank_get]
theorem result_ok (hT : ∀ t ti, look tb.ty t = some ti → TyOk P t ti) {G : Gh} {w : World} {tm : Tm} {a : Act} (hf : FrT G tm a) : ∀ (l : List ResultVar) (σ σ' : Sto) (ds : List DV), Runs (resultsOf tb tm l) σ ds σ' → Inv B0 G σ.c L σ.s w →
    ∃ vs, (l.mapM fun r => (match r with | .tmp t => pure (a.tmps.getD t undef) | .cell x t => do loadVar t (← asAddr (a.tmps.getD x undef)) : Sem Value)).run P w = .ok vs w ∧ Reps G ds vs ∧ σ'.c = σ.c ∧ σ'.s = σ.s
  | [], σ, σ', ds, h, I => by
    obtain ⟨rfl, rfl⟩ := pur_inv (show Runs (pur []) σ ds σ' from h)
    exact ⟨[], rfl, Reps.nil, rfl, rfl⟩
  | r :: l, σ, σ', ds, h, I => by
    have h : Runs (bind (resultOf tb tm r) fun v => bind (resultsOf tb tm l) fun vs => pur (v :: vs)) σ ds σ' := h
    obtain ⟨d, σ1, h1, h2⟩ := h.split (ok_resultOf _ _)
    obtain ⟨ds', σ2, h3, h4⟩ := h2.split (ok_resultsOf _ _)
    obtain ⟨rfl, rfl⟩ := pur_inv h4
    have hone : ∃ v, (match r with | .tmp t => pure (a.tmps.getD t undef) | .cell x t => do loadVar t (← asAddr (a.tmps.getD x undef)) : Sem Value).run P w = .ok v w ∧ Rep G d v ∧ σ1.c = σ.c ∧ σ1.s = σ.s := by
      cases r with
      | tmp t =>
        have h1 : Runs (seqD (tm.get t) E.pur) σ d σ1 := h1
        rw [seqD_eq] at h1
        obtain ⟨rfl, rfl⟩ := pur_inv h1
        exact ⟨_, rfl, hf t, rfl, rfl⟩
      | cell x t =>
        have h1 : Runs (seqD (tm.get x) (opLoad tb t)) σ d σ1 := h1
        rw [seqD_eq] at h1
        obtain ⟨v, g1, g2, g3, g4⟩ := op_load hT h1 (hf x) I
        refine ⟨v, ?_, g2, g3, g4⟩
        have g1 : (Instr.loadAt t (a.tmps.getD x undef)).run P w = .ok v w := g1
        show (do loadVar t (← asAddr (a.tmps.getD x undef)) : Sem Value).run P w = .ok v w
        revert g1
        unfold Instr.loadAt
        generalize a.tmps.getD x undef = u
        intro g1
        unfold Instr.sureAddr at g1
        split at g1
        · simpa [asAddr] using g1
        · simp [stuck] at g1
    obtain ⟨v, q1, q2, q3, q4⟩ := hone
    obtain ⟨vs, q5, q6, q7, q8⟩ := result_ok hT hf l σ1 σ' ds' h3 (by rw [q3, q4]; exact I)
    refine ⟨v :: vs, ?_, Reps.cons q2 q6, q7.trans q3, q8.trans q4⟩
    rw [List.mapM_cons, Sem.run_bind, q1]
    simp only [Result.andThen_ok, Sem.run_bind, q5, Sem.run_pure]
theorem enter_ok (hmix : P.follows .mixedOrders = true) (hT : ∀ t ti, look tb.ty t = some ti → TyOk P t ti) (hE : ∀ t, has tb.eq t = true → EqOk P t) (hok : ∀ f args, Ok (call f args)) (hcall : CallOk P B0 call) {fuel V f : Nat} {fn : Func} (hfn : FnOk P f fn)
    {G : Gh} {w : World} {ds : List DV} {vs : List Value} {σ σ' : Sto} {d : DV} (h : Runs (enter tb call fuel ds V fn) σ d σ') (hr : Reps G ds vs) (hg : σ.Good) (I : Inv B0 G σ.c L σ.s w) (hB0 : B0 ≤ w.heap.size) (hL : σ'.c ≤ L) :
    (callFunc f vs.toArray).run P w = .ok (.enter f vs.toArray) w ∧ Calls P f vs.toArray w fun e w' => ∃ v G', e = .returned v ∧ Rep G' d v ∧ G.le G' ∧ Inv B0 G' σ'.c L σ'.s w' ∧ Below B0 w w' := by
  unfold enter at h
  split at h
  · exact (fail_inv h).elim
  · rename_i b hb
    obtain ⟨hc, h⟩ := cond_fail_inv h
    simp only [Bool.and_eq_true] at hc
    have hn : ds.length ≤ fn.ntmps := by rw [← lenR_eq]; exact Nat.le_of_ble_eq_true hc.1.2
    have hV : (V + 1) % 2 ^ ds.length = 0 := by rw [← lenR_eq]; exact Nat.eq_of_beq_eq_true hc.2
    rw [lay_is] at h
    obtain ⟨o, σ1, h1, h2⟩ := h.split (ok_evCode hok _ _ _ _)
    obtain ⟨k1, k2, k3⟩ := ok_step (ok_evCode hok _ _ _ _) I.full hg h1
    obtain ⟨k4, -, -⟩ := ok_step (ok_results _ _) k2 k3 h2
    have hfit : fitsC fn.ntmps b = true := by have := hfn.fits; rw [hb] at this; exact this
    have hl := hr.length
    refine ⟨?_, calls_of_wp hfn.here hb ?_⟩
    · have := hfn.name
      simp [callFunc, hfn.here, run_program, hb, this]
      simpa using this
    · obtain ⟨q1, q2⟩ := lay_ok (ds := []) hr hn hV
      refine code_ok hmix hT hE hok hcall hB0 (ds := []) b (layT ds 0 (Tm.blank 10)) σ o σ1 _ w G _ hfit h1 ⟨q1, q2, by simp; omega, rfl, I, .refl _ _, .refl G⟩ hg (by omega) fun a' w' G' hA => ?_
      unfold E.results at h2
      have hnr : o.ex = .normal ∨ o.ex = .ret := by
        cases he : o.ex with
        | normal => exact .inl rfl
        | ret => exact .inr rfl
        | exit id => rw [he] at h2; exact (fail_inv h2).elim
      have h3 : Runs (bind (resultsOf tb o.tm fn.results.toList) fun vs => seqD (single vs) E.pur) σ1 d σ' := by
        rcases hnr with he | he <;> rw [he] at h2 <;> exact h2
      obtain ⟨rs, σ2, h4, h5⟩ := h3.split (ok_resultsOf _ _)
      rw [seqD_eq] at h5
      obtain ⟨rfl, rfl⟩ := pur_inv h5
      obtain ⟨us, r1, r2, r3, r4⟩ := result_ok hT hA.fr _ _ _ _ h4 hA.inv
      have hres : ∃ v, (Go.results fn a'.tmps).run P w' = .ok v w' ∧ Rep G' (single rs) v := by
        have hm : (fn.results.mapM fun r => (match r with | .tmp t => pure (a'.tmps.getD t undef) | .cell x t => do loadVar t (← asAddr (a'.tmps.getD x undef)) : Sem Value)).run P w' = .ok us.toArray w' := by
          rw [Array.mapM_eq_mapM_toList, Sem.run_map, r1]; rfl
        have hul := r2.length
        have key : ∀ (X : Sem (Array Value)), X.run P w' = .ok us.toArray w' → (X >>= fun vs => pure (if h : vs.size = 1 then vs[0] else .tuple vs)).run P w' = .ok (if h : us.toArray.size = 1 then us.toArray[0] else .tuple us.toArray) w' := by
          intro X hX
          rw [Sem.run_bind, hX]
          simp only [Result.andThen_ok, Sem.run_pure]
        refine ⟨if h : us.toArray.size = 1 then us.toArray[0] else .tuple us.toArray, key _ hm, ?_⟩
        · rcases rs with _ | ⟨d1, _ | ⟨d2, rest⟩⟩
          · rw [Reps.nil_iff] at r2; subst r2
            rw [dif_neg (by simp)]
            show Rep G' (.tup []) _
            rw [Rep]; exact ⟨[], rfl, Reps.nil⟩
          · obtain ⟨v, r', rfl, g1, g2⟩ := Reps.cons_iff.1 r2
            rw [Reps.nil_iff] at g2; subst g2
            rw [dif_pos (by simp)]
            exact g1
          · rw [dif_neg (by simp [hul])]
            show Rep G' (.tup (d1 :: d2 :: rest)) _
            rw [Rep]; exact ⟨us, rfl, r2⟩
      obtain ⟨v, r5, r6⟩ := hres
      have fin : a'.defers = [] ∧ ∃ v, (Go.results fn a'.tmps).run P w' = .ok v w' ∧ ∃ v' G', Ending.returned v = .returned v' ∧ Rep G' (single rs) v' ∧ G.le G' ∧ Inv B0 G' σ'.c L σ'.s w' ∧ Below B0 w w' :=
        ⟨hA.defers, v, r5, v, G', rfl, r6, hA.le, by rw [r3, r4]; exact hA.inv, hA.below⟩
      rcases hnr with he | he <;> rw [he] <;> exact fin
theorem evFn_ok (hP : TabOk P tb) (fuel : Nat) : ∀ n, CallOk P B0 (evFn tb fuel n)
  | 0 => fun L G w g ds vs σ d σ' h => (fail_inv (show Runs (fail : M DV) σ d σ' from h)).elim
  | n + 1 => fun L G w g ds vs σ d σ' h hr hg I hB0 hL => by
    have h : Runs (Option.rec (Option.rec E.fail (fun p => Prod.rec (fun V fn => E.enter tb (E.evFn tb fuel n) fuel ds V fn) p) (look tb.fn g)) (fun g => g ds) (look tb.prim g) : M DV) σ d σ' := h
    cases hp : look tb.prim g with
    | some k =>
      rw [hp] at h
      exact (hP.prim g k hp).2 B0 L G w ds vs σ d σ' h hr hg I hB0 hL
    | none =>
      rw [hp] at h
      have h : Runs (Option.rec E.fail (fun p => Prod.rec (fun V fn => E.enter tb (E.evFn tb fuel n) fuel ds V fn) p) (look tb.fn g) : M DV) σ d σ' := h
      cases hq : look tb.fn g with
      | none => rw [hq] at h; exact (fail_inv h).elim
      | some p =>
        obtain ⟨V, fn⟩ := p
        rw [hq] at h
        exact .inl <| enter_ok hP.mixed hP.ty hP.eq (ok_evFn (fun f k hk => (hP.prim f k hk).1) fuel n) (evFn_ok hP fuel n) (hP.fn g V fn hq) h hr hg I hB0 hL
def noRows : Gh := fun _ _ => none
theorem run_ok (hP : TabOk P tb) {fuel n f : Nat} {ds : List DV} {vs : List Value} {d : DV} {σ' : Sto} (hp : look tb.prim f = none) (h : run tb fuel (n + 1) f ds = some (d, σ')) (hr : Reps noRows ds vs) (w : World) :
    (callFunc f vs.toArray).run P w = .ok (.enter f vs.toArray) w ∧ Calls P f vs.toArray w fun e w' => ∃ v G', e = .returned v ∧ Rep G' d v ∧ Inv w.heap.size G' σ'.c σ'.c σ'.s w' ∧ Below w.heap.size w w' := by
  have hok := ok_evFn (fun f k hk => (hP.prim f k hk).1) fuel (n + 1) f ds
  obtain ⟨d', τ, hrun⟩ := hok.det _ _ _ (show evFn tb fuel (n + 1) f ds (.mk false 0 (Tm.blank depth) [] []) (fun r σ => some (r, σ)) = some (d, σ') from h)
  have heq : some (d', τ) = some (d, σ') := (hrun fun r σ => some (r, σ)).symm.trans h
  cases heq
  have I : Inv w.heap.size noRows 0 σ'.c (Tm.blank depth) w := ⟨Tm.blank_full _, fun n _ _ => Tm.blank_get _ _, fun n e m fz cs h => (by rw [Tm.blank_get] at h; cases h), fun n => (by rw [Tm.blank_get]; trivial), fun n e B h => (by cases h), fun n e B n' e' B' h => (by cases h)⟩
  have h2 : Runs (Option.rec (Option.rec E.fail (fun p => Prod.rec (fun V fn => E.enter tb (E.evFn tb fuel n) fuel ds V fn) p) (look tb.fn f)) (fun g => g ds) (look tb.prim f) : M DV) (.mk false 0 (Tm.blank depth) [] []) d σ' := hrun
  rw [hp] at h2
  have h2 : Runs (Option.rec E.fail (fun p => Prod.rec (fun V fn => E.enter tb (E.evFn tb fuel n) fuel ds V fn) p) (look tb.fn f) : M DV) (.mk false 0 (Tm.blank depth) [] []) d σ' := h2
  cases hq : look tb.fn f with
  | none => rw [hq] at h2; exact (fail_inv h2).elim
  | some p =>
    obtain ⟨V, fn⟩ := p
    rw [hq] at h2
    have main := enter_ok hP.mixed hP.ty hP.eq (ok_evFn (fun f k hk => (hP.prim f k hk).1) fuel n) (evFn_ok hP fuel n) (hP.fn f V fn hq) h2 hr (fun n (hn : n ∈ []) => (List.not_mem_nil hn).elim) I (Nat.le_refl _) (Nat.le_refl _)
    refine ⟨main.1, main.2.mono fun e w' he => ?_⟩
    obtain ⟨v, G', h1, h2, -, h3, h4⟩ := he
    exact ⟨v, G', h1, h2, h3, h4⟩
end Go.E
end
