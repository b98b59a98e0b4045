/- The evaluator: maps, and all operations together, are sound. -/
import Derived.Test.YtmmjnbpoilicjaaGreatBE2
set_option linter.unusedVariables false
set_option linter.unusedSimpArgs false
section
namespace Go.E
open Go Go.RowKit
variable {P : Program} {B0 L : Nat} {G : Gh} {w : World} {tb : Tab}
def swap (w : World) (b : Nat) (o : Obj) : World := { w with heap := w.heap.setIfInBounds b o }
theorem run_get {b : Nat} {o : Obj} (h : w.heap[b]? = some o) (ho : ∀ x y z, o ≠ .cells x y z) : (getObj b).run P w = .ok o w := by
  cases o <;> first | exact absurd rfl (ho _ _ _) | simp [getObj, Sem.run, h]
theorem run_set {b : Nat} {o o' : Obj} (h : w.heap[b]? = some o) (ho : ∀ x y z, o ≠ .cells x y z) : (setObj b o').run P w = .ok () (swap w b o') := by
  cases o <;> first | exact absurd rfl (ho _ _ _) | simp [setObj, Sem.run, h, swap]
theorem swap_other {b k : Nat} (o : Obj) (h : k ≠ b) : (swap w b o).heap[k]? = w.heap[k]? := by
  unfold swap
  exact Array.getElem?_setIfInBounds_ne (Ne.symm h)
theorem swap_same {b : Nat} {o o' : Obj} (h : w.heap[b]? = some o') : (swap w b o).heap[b]? = some o := by
  unfold swap
  have : b < w.heap.size := (Array.getElem?_eq_some_iff.1 h).1
  simp [this]
theorem swap_below {b : Nat} (hb : B0 ≤ b) (o : Obj) : Below B0 w (swap w b o) := ⟨rfl, rfl, rfl, by unfold swap; simp, fun k hk => swap_other o (by omega)⟩
theorem Inv.setObj {c : Nat} {s : Tm} (I : Inv B0 G c L s w) {n : Nat} {B : Blk} (hB : G n 0 = some B) (hnr : ∀ e m fz cs, s.get n ≠ .row e m fz cs) {d : DV} (hh : ∀ e, Held (s.get n) e → Held d e) (hdr : ∀ e m fz cs, d ≠ .row e m fz cs) {o : Obj} (ho : ObjOk G (swap w B.b o) n d) (hd : n + 1 < 2 ^ depth) :
    Inv B0 G c L (s.put d n) (swap w B.b o) := by
  have hget : ∀ n', (s.put d n).get n' = if n' = n then d else s.get n' := fun n' => Tm.get_put_ite s I.full _ _ _ hd
  refine ⟨Tm.put_full _ _ _ _ I.full, fun n' hn hnL => ?_, fun n' e1 m1 fz1 cs1 hn => ?_, fun n' => ?_, fun n' e1 B1 hB1 => ?_, I.apart⟩
  · rw [hget]
    by_cases h : n' = n
    · subst h
      have := (I.known n' 0 B hB).2.2
      rw [I.fresh n' hn hnL] at this; exact this.elim
    · rw [if_neg h]; exact I.fresh n' hn hnL
  · rw [hget] at hn
    split at hn
    · exact absurd hn (hdr _ _ _ _)
    · rename_i hne
      exact (I.row n' e1 m1 fz1 cs1 hn).old (.refl G) fun e' B' hB' => swap_other o fun hb => hne (I.apart _ _ _ _ _ _ hB' hB hb).1
  · rw [hget]
    split
    · rename_i h; subst h; exact ho
    · rename_i hne
      exact (I.obj n').mono (.refl G) fun B' hB' => swap_other o fun hb => hne (I.apart _ _ _ _ _ _ hB' hB hb).1
  · obtain ⟨h1, h2, h3⟩ := I.known n' e1 B1 hB1
    refine ⟨h1, by unfold swap; simpa using h2, ?_⟩
    rw [hget]
    split
    · rename_i h; subst h; exact hh _ h3
    · exact h3
theorem rep_cells {d : DV} {v : Value} (h : Rep G d v) (hn : d ≠ .none) : ∃ xs, Reps G (cells d) xs ∧ (isAggD d = true → v = .agg xs.toArray) ∧ (isAggD d = false → xs = [v]) := by
  by_cases ha : ∃ cs, d = .agg cs
  · obtain ⟨cs, rfl⟩ := ha
    rw [Rep] at h
    obtain ⟨vs, rfl, h3⟩ := h
    exact ⟨vs, h3, fun _ => rfl, fun h => by cases h⟩
  · have hc : cells d = [d] := by cases d <;> first | rfl | exact absurd ⟨_, rfl⟩ ha
    have hi : isAggD d = false := by cases d <;> first | rfl | exact absurd ⟨_, rfl⟩ ha
    rw [hc]
    exact ⟨[v], Reps.cons h Reps.nil, fun h => (by rw [hi] at h; cases h), fun _ => rfl⟩
theorem eqB_true {a b : Bool} (h : eqB a b = true) : a = b := by cases a <;> cases b <;> first | rfl | cases h
def plainV : Value → Bool
  | .int _ _ => true
  | .bool _ => true
  | .string _ => true
  | _ => false
theorem bytes_inj {a b : ByteArray} {l : List Nat} (ha : a.data.toList.map UInt8.toNat = l) (hb : b.data.toList.map UInt8.toNat = l) : a = b := by
  have := map_toNat_inj (ha.trans hb.symm)
  obtain ⟨⟨x⟩⟩ := a
  obtain ⟨⟨y⟩⟩ := b
  simp at this
  rw [this]
theorem litEq_inv : ∀ {a b : List DV} {xs ys : List Value} {r : Bool}, litEq a b = some r → Reps G a xs → Reps G b ys → r = true → xs = ys ∧ ∀ x ∈ xs, plainV x = true
  | [], [], xs, ys, r, h, ha, hb, hr => by
    rw [Reps.nil_iff] at ha hb
    subst ha hb
    exact ⟨rfl, fun x hx => by cases hx⟩
  | [], y :: t, xs, ys, r, h, ha, hb, hr => by simp [litEq] at h
  | x :: t, [], xs, ys, r, h, ha, hb, hr => by cases x <;> simp [litEq] at h
  | x :: t, y :: u, xs, ys, r, h, ha, hb, hr => by
    obtain ⟨vx, rx, rfl, a1, a2⟩ := Reps.cons_iff.1 ha
    obtain ⟨vy, ry, rfl, b1, b2⟩ := Reps.cons_iff.1 hb
    subst hr
    cases x <;> cases y <;> simp only [litEq] at h <;> try (cases h; done)
    · rename_i k p k' q
      cases he : eqK k k' with
      | false => rw [he] at h; cases h
      | true =>
        rw [he] at h
        obtain rfl := eqK_eq he
        cases hl : litEq t u with
        | none => rw [hl] at h; cases h
        | some r' =>
          rw [hl] at h
          simp only [cond_true, Option.map_some, Option.some.injEq, Bool.and_eq_true] at h
          obtain ⟨h1, h2⟩ := h
          obtain ⟨e1, e2⟩ := litEq_inv hl a2 b2 h2
          rw [eqZ_eq, beq_iff_eq] at h1
          subst h1
          obtain rfl := rep_int a1
          obtain rfl := rep_int b1
          exact ⟨by rw [e1], fun x hx => by rcases List.mem_cons.1 hx with rfl | hx; · rfl
                                            · exact e2 x hx⟩
    · rename_i p q
      cases hl : litEq t u with
      | none => rw [hl] at h; cases h
      | some r' =>
        rw [hl] at h
        simp only [Option.map_some, Option.some.injEq, Bool.and_eq_true, beq_iff_eq] at h
        obtain ⟨h1, h2⟩ := h
        obtain ⟨e1, e2⟩ := litEq_inv hl a2 b2 h2
        subst h1
        obtain rfl := rep_bool a1
        obtain rfl := rep_bool b1
        exact ⟨by rw [e1], fun x hx => by rcases List.mem_cons.1 hx with rfl | hx; · rfl
                                          · exact e2 x hx⟩
    · rename_i p q
      cases hl : litEq t u with
      | none => rw [hl] at h; cases h
      | some r' =>
        rw [hl] at h
        simp only [Option.map_some, Option.some.injEq, Bool.and_eq_true] at h
        obtain ⟨h1, h2⟩ := h
        obtain ⟨e1, e2⟩ := litEq_inv hl a2 b2 h2
        rw [eqLN_eq, decide_eq_true_eq] at h1
        subst h1
        rw [Rep] at a1 b1
        obtain ⟨sx, rfl, c1⟩ := a1
        obtain ⟨sy, rfl, c2⟩ := b1
        obtain rfl := bytes_inj c1 c2
        exact ⟨by rw [e1], fun x hx => by rcases List.mem_cons.1 hx with rfl | hx; · rfl
                                          · exact e2 x hx⟩
theorem sameBits_plain {v : Value} (h : plainV v = true) (n : Nat) : Instr.sameBits n v v = true := by
  cases v <;> simp only [plainV] at h <;> try (cases h; done)
  all_goals (cases n <;> simp [Instr.sameBits, beq_toListBytes])
theorem sameBits_agg {xs : List Value} (h : ∀ x ∈ xs, plainV x = true) (n : Nat) : Instr.sameBits (n + 1) (.agg xs.toArray) (.agg xs.toArray) = true := by
  simp only [Instr.sameBits, beq_self_eq_true, Bool.true_and]
  rw [List.all_eq_true]
  rintro ⟨x, y⟩ hm
  have : ∀ (l : List Value), (x, y) ∈ l.zip l → x = y ∧ x ∈ l := by
    intro l
    induction l with
    | nil => intro h; cases h
    | cons a r ih =>
      intro h
      rw [List.zip_cons_cons] at h
      rcases List.mem_cons.1 h with h | h
      · cases h; exact ⟨rfl, by simp⟩
      · exact ⟨(ih h).1, by simp [(ih h).2]⟩
  obtain ⟨rfl, hx⟩ := this _ hm
  exact sameBits_plain (h x (by simpa using hx)) n
theorem checkKey_run (hT : ∀ t ti, look tb.ty t = some ti → TyOk P t ti) (hE : ∀ t, has tb.eq t = true → EqOk P t) (emp : Bool) : ∀ (n t : Nat) (a b : List DV) (r : Bool) (ti : TI) (xs : List Value) (vx : Value), eqT tb n t a b = some r → look tb.ty t = some ti → Reps G a xs → Shape ti xs vx →
    ∀ d, n ≤ d → (Instr.checkKey emp d t vx).run P w = .ok () w
  | 0, t, a, b, r, ti, xs, vx, h, hl, ha, hx, d, hd => by cases h
  | n + 1, t, a, b, r, ti, xs, vx, h, hl, ha, hx, d, hd => by
    obtain ⟨d, rfl⟩ : ∃ k, d = k + 1 := ⟨d - 1, by omega⟩
    obtain ⟨dd, hd1, hd2, hd3⟩ := (hT t ti hl).desc
    have one1 : ∀ {da : DV} {va : Value} {us : List Value}, isAgg ti.td = false → Reps G [da] us → Shape ti us va → Rep G da va := by
      intro da va us hi hr hs
      rcases hs with ⟨h1, -⟩ | ⟨-, rfl⟩
      · rw [hi] at h1; cases h1
      · obtain ⟨v, r', h1, h2, h3⟩ := Reps.cons_iff.1 hr
        cases h1; exact h2
    have h0 := h
    unfold eqT at h
    simp only [hl] at h
    split at h
    · rename_i k k1 x k2 y htd
      rw [htd] at hd2 one1
      have hd2 : dd = .int k := hd2
      subst hd2
      obtain rfl := rep_int (one1 rfl ha hx)
      simp [Instr.checkKey, run_underlying hd1 w]
    · rename_i x y htd
      rw [htd] at hd2 one1
      have hd2 : dd = .bool := hd2
      subst hd2
      obtain rfl := rep_bool (one1 rfl ha hx)
      simp [Instr.checkKey, run_underlying hd1 w]
    · rename_i x y htd
      rw [htd] at hd2 one1
      have hd2 : dd = .string := hd2
      subst hd2
      have h1 := one1 rfl ha hx
      rw [Rep] at h1
      obtain ⟨sx, rfl, h1⟩ := h1
      simp [Instr.checkKey, run_underlying hd1 w]
    · rename_i a b _ a2 b2 fs htd
      have hia : isAgg ti.td = true := by rw [htd]; rfl
      rw [htd] at hd2
      obtain ⟨fields, rfl, hfs⟩ := hd2
      cases hq : has tb.eq t with
      | false => rw [hq] at h; cases h
      | true =>
        rw [hq] at h
        have hEt := hE t hq
        have hx' : vx = .agg xs.toArray := by
          rcases hx with ⟨-, h⟩ | ⟨h, -⟩
          · exact h
          · rw [hia] at h; cases h
        subst hx'
        have hn := hEt.names fields hd1
        unfold Instr.checkKey
        simp only [Sem.run_bind, run_underlying hd1 w, Result.andThen_ok]
        rw [← Array.forIn_toList]
        subst hfs
        clear hx hl hd1 hd3 htd h0
        generalize fields.toList = l at h hn
        induction l generalizing r with
        | nil => simp
        | cons f fl ih =>
          simp only [List.map_cons] at h
          split at h
          · rename_i fi hfi
            split at h
            · rename_i a' b' hra hrb
              split at h
              · rename_i r1 r2 he1 he2
                obtain ⟨hla, rfl⟩ := range_inv hra
                have hxa := ha.length
                have hax : Reps G ((a.drop f.offset).take fi.size) ((xs.drop f.offset).take fi.size) := (ha.drop _).take _
                have hsz : isAgg fi.td = false → fi.size = 1 := fun hi => by
                  cases n with
                  | zero => cases he1
                  | succ m =>
                    have he1 : eqT tb (m + 1) f.type ((a.drop f.offset).take fi.size) b' = some r1 := he1
                    unfold eqT at he1
                    simp only [hfi] at he1
                    have hl1 : ((a.drop f.offset).take fi.size).length = fi.size := by rw [List.length_take, List.length_drop]; have : f.offset + fi.size ≤ a.length := hla; omega
                    split at he1
                    · rename_i heq _; rw [heq] at hl1; exact hl1.symm
                    · rename_i heq _; rw [heq] at hl1; exact hl1.symm
                    · rename_i heq _; rw [heq] at hl1; exact hl1.symm
                    · first | (rename_i htd'; rw [htd'] at hi; cases hi; done) | (rename_i htd' _; rw [htd'] at hi; cases hi; done)
                    · cases he1
                have hla' : f.offset + fi.size ≤ xs.length := by rw [hxa]; exact hla
                obtain ⟨v1, hv1⟩ := shape_exists (ti := fi) (cs := (xs.drop f.offset).take fi.size) fun hi => by rw [List.length_take, List.length_drop, hsz hi]; have := hsz hi; omega
                have p1 := run_part' (w := w) (hT _ _ hfi) hla' hv1
                have p3 := checkKey_run hT hE emp n f.type _ _ r1 fi _ v1 he1 hfi hax hv1 d (by omega)
                have hne : f.name ≠ "_" := hn f (by simp)
                have p4 := ih r2 he2 (fun g hg => hn g (by simp [hg]))
                rw [List.forIn_cons]
                simp only [if_pos hne, Sem.run_bind, p1, Result.andThen_ok, p3, Sem.run_pure]
                exact p4
              · cases h
            · cases h
          · cases h
    · cases h
theorem eqT_head {n t : Nat} {a b : List DV} {r : Bool} {ti : TI} (h : eqT tb (n + 1) t a b = some r) (hl : look tb.ty t = some ti) :
    (∃ k k1 x y, ti.td = .int k ∧ a = [.int k1 x] ∧ b = [.int k1 y] ∧ r = eqZ x y) ∨ (∃ x y, ti.td = .bool ∧ a = [.bool x] ∧ b = [.bool y] ∧ r = (x == y)) ∨ (∃ x y, ti.td = .str ∧ a = [.str x] ∧ b = [.str y] ∧ r = eqLN x y) ∨ ∃ fs, ti.td = .struct fs := by
  unfold eqT at h
  simp only [hl] at h
  split at h
  · rename_i k k1 x k2 y htd
    cases hk : eqK k1 k2 with
    | false => rw [hk] at h; cases h
    | true =>
      rw [hk] at h
      obtain rfl := eqK_eq hk
      have h : some (eqZ x y) = some r := h
      cases h
      exact .inl ⟨k, k1, x, y, htd, rfl, rfl, rfl⟩
  · rename_i x y htd
    cases h
    exact .inr (.inl ⟨x, y, htd, rfl, rfl, by cases x <;> cases y <;> rfl⟩)
  · rename_i x y htd
    cases h
    exact .inr (.inr (.inl ⟨x, y, htd, rfl, rfl, rfl⟩))
  · rename_i fs htd
    exact .inr (.inr (.inr ⟨fs, htd⟩))
  · cases h
def scalarT : TD → Bool
  | .int _ => true
  | .bool => true
  | .str => true
  | _ => false
theorem keyEq_run (hT : ∀ t ti, look tb.ty t = some ti → TyOk P t ti) (hE : ∀ t, has tb.eq t = true → EqOk P t) {kt : Nat} {ti : TI} (hl : look tb.ty kt = some ti) {a b : DV} {va vb : Value} {r : Bool} (h : keyEq tb kt a b = some r) (ha : Rep G a va) (hb : Rep G b vb) (hsh : isAgg ti.td = isAggD a) :
    (Op.equal kt va vb).run P w = .ok r w ∧ (r = true → va = vb ∧ ∀ n, Instr.sameBits (n + 1) va va = true) ∧ (scalarT ti.td = true → ∀ d, P.underlying kt = some d → Instr.sameNow d va vb = some r) ∧ (scalarT ti.td = false → isAgg ti.td = true) := by
  unfold keyEq at h
  cases hs : eqB (isAggD a) (isAggD b) with
  | false => rw [hs] at h; cases h
  | true =>
    rw [hs] at h
    have hs := eqB_true hs
    have h : (Option.rec none (fun r => Bool.rec (some false) (Option.rec none (fun q => Bool.rec none (some true) q) (litEq (cells a) (cells b))) r) (eqT tb 5 kt (cells a) (cells b)) : Option Bool) = some r := h
    cases he : eqT tb 5 kt (cells a) (cells b) with
    | none => rw [he] at h; cases h
    | some r0 =>
      rw [he] at h
      have hhead := eqT_head (n := 4) he hl
      have hna : a ≠ .none := by
        rintro rfl
        rcases hhead with ⟨k, k1, x, y, h1, h2, -⟩ | ⟨x, y, h1, h2, -⟩ | ⟨x, y, h1, h2, -⟩ | ⟨fs, h1⟩
        · cases h2
        · cases h2
        · cases h2
        · rw [h1] at hsh; cases hsh
      have hnb : b ≠ .none := by
        rintro rfl
        rcases hhead with ⟨k, k1, x, y, h1, -, h2, -⟩ | ⟨x, y, h1, -, h2, -⟩ | ⟨x, y, h1, -, h2, -⟩ | ⟨fs, h1⟩
        · cases h2
        · cases h2
        · cases h2
        · rw [h1] at hsh; rw [← hsh] at hs; cases hs
      obtain ⟨xs, x1, x2, x3⟩ := rep_cells ha hna
      obtain ⟨ys, y1, y2, y3⟩ := rep_cells hb hnb
      have sx : Shape ti xs va := by
        cases hi : isAgg ti.td with
        | true => exact .inl ⟨hi, x2 (by rw [← hsh, hi])⟩
        | false => exact .inr ⟨hi, x3 (by rw [← hsh, hi])⟩
      have sy : Shape ti ys vb := by
        cases hi : isAgg ti.td with
        | true => exact .inl ⟨hi, y2 (by rw [← hs, ← hsh, hi])⟩
        | false => exact .inr ⟨hi, y3 (by rw [← hs, ← hsh, hi])⟩
      have hrun := eqT_run (w := w) hT hE 5 kt _ _ r0 ti xs ys va vb he hl x1 y1 sx sy 10000 (by omega)
      have hr0 : r0 = r ∧ (r = true → va = vb ∧ ∀ n, Instr.sameBits (n + 1) va va = true) := by
        cases r0 with
        | false => cases h; exact ⟨rfl, fun h => by cases h⟩
        | true =>
          have h : (Option.rec none (fun q => Bool.rec none (some true) q) (litEq (cells a) (cells b)) : Option Bool) = some r := h
          cases hq : litEq (cells a) (cells b) with
          | none => rw [hq] at h; cases h
          | some q =>
            rw [hq] at h
            cases q with
            | false => cases h
            | true =>
              cases h
              refine ⟨rfl, fun _ => ?_⟩
              obtain ⟨e1, e2⟩ := litEq_inv hq x1 y1 rfl
              subst e1
              rcases sx with ⟨h1, rfl⟩ | ⟨h1, rfl⟩
              · rcases sy with ⟨-, rfl⟩ | ⟨h2, -⟩
                · exact ⟨rfl, fun n => sameBits_agg e2 n⟩
                · rw [h1] at h2; cases h2
              · rcases sy with ⟨h2, -⟩ | ⟨-, h2⟩
                · rw [h1] at h2; cases h2
                · cases h2
                  exact ⟨rfl, fun n => sameBits_plain (e2 _ (by simp)) _⟩
      obtain ⟨rfl, hr1⟩ := hr0
      refine ⟨hrun, hr1, fun hsc d hd => ?_, fun hsc => ?_⟩
      · obtain ⟨dd, hd1, hd2, hd3⟩ := (hT kt ti hl).desc
        rw [hd] at hd1; cases hd1
        have hi : isAgg ti.td = false := by
          cases hq : ti.td <;> rw [hq] at hsc <;> first | rfl | cases hsc
        have one1 : ∀ {da : DV} {v : Value} {us : List Value}, Reps G [da] us → Shape ti us v → Rep G da v := by
          intro da v us hr hs
          rcases hs with ⟨h1, -⟩ | ⟨-, rfl⟩
          · rw [hi] at h1; cases h1
          · obtain ⟨v, r', h1, h2, h3⟩ := Reps.cons_iff.1 hr
            cases h1; exact h2
        rcases hhead with ⟨k, k1, x, y, htd, e1, e2, rfl⟩ | ⟨x, y, htd, e1, e2, rfl⟩ | ⟨x, y, htd, e1, e2, rfl⟩ | ⟨fs, htd⟩
        · rw [e1] at x1; rw [e2] at y1
          rw [htd] at hd2
          have hd2 : d = .int k := hd2
          subst hd2
          obtain rfl := rep_int (one1 x1 sx)
          obtain rfl := rep_int (one1 y1 sy)
          simp [Instr.sameNow, eqZ_eq]
        · rw [e1] at x1; rw [e2] at y1
          rw [htd] at hd2
          have hd2 : d = .bool := hd2
          subst hd2
          obtain rfl := rep_bool (one1 x1 sx)
          obtain rfl := rep_bool (one1 y1 sy)
          rfl
        · rw [e1] at x1; rw [e2] at y1
          rw [htd] at hd2
          have hd2 : d = .string := hd2
          subst hd2
          have h1 := one1 x1 sx
          have h2 := one1 y1 sy
          rw [Rep] at h1 h2
          obtain ⟨sx', rfl, h1⟩ := h1
          obtain ⟨sy', rfl, h2⟩ := h2
          simp only [Instr.sameNow, beq_toListBytes, strs_eq h1 h2]
        · rw [htd] at hi; cases hi
      · rcases hhead with ⟨k, k1, x, y, htd, -⟩ | ⟨x, y, htd, -⟩ | ⟨x, y, htd, -⟩ | ⟨fs, htd⟩
        · rw [htd] at hsc; cases hsc
        · rw [htd] at hsc; cases hsc
        · rw [htd] at hsc; cases hsc
        · rw [htd]; rfl
end Go.E
end
section
namespace Go.E
open Go Go.RowKit
variable {P : Program} {B0 L : Nat} {G : Gh} {w : World} {tb : Tab}
theorem findKs_run (hT : ∀ t ti, look tb.ty t = some ti → TyOk P t ti) (hE : ∀ t, has tb.eq t = true → EqOk P t) {kt : Nat} {ti : TI} (hl : look tb.ty kt = some ti) {a : DV} {va : Value} (ha : Rep G a va) (hsh : isAgg ti.td = isAggD a) {d : TypeDesc} (hd : P.underlying kt = some d) :
    ∀ (ks : List DV) (es : List MapEntry) (i : Nat) (res : Option Nat), findKs tb kt a ks i = some res → Reps G ks (es.map (·.key)) →
      (res = none → (scalarT ti.td = true → Instr.findNow d va es i = some none) ∧ (Instr.findAsking kt va es i).run P w = .ok none w) ∧
      (∀ j, res = some j → ∃ k e, j = i + k ∧ es[k]? = some e ∧ e.key = va ∧ (∀ n, Instr.sameBits (n + 1) va va = true) ∧ (scalarT ti.td = true → Instr.findNow d va es i = some (some (j, e.val))) ∧ (Instr.findAsking kt va es i).run P w = .ok (some (j, e.val)) w) ∧
      (es ≠ [] → scalarT ti.td = false → isAgg ti.td = true)
  | [], es, i, res, h, hr => by
    have h : some none = some res := h
    cases h
    rw [Reps.nil_iff] at hr
    obtain rfl : es = [] := by simpa using hr
    exact ⟨fun _ => ⟨fun _ => rfl, rfl⟩, fun j hj => (by cases hj), fun h => absurd rfl h⟩
  | b :: ks, es, i, res, h, hr => by
    obtain ⟨v, r, he, h1, h2⟩ := Reps.cons_iff.1 hr
    cases es with
    | nil => cases he
    | cons e es =>
      simp only [List.map_cons, List.cons.injEq] at he
      obtain ⟨rfl, rfl⟩ := he
      have h : (Option.rec none (fun r => Bool.rec (findKs tb kt a ks (Nat.succ i)) (some (some i)) r) (keyEq tb kt a b) : Option (Option Nat)) = some res := h
      cases hk : keyEq tb kt a b with
      | none => rw [hk] at h; cases h
      | some q =>
        rw [hk] at h
        obtain ⟨g1, g2, g3, g4⟩ := keyEq_run (w := w) hT hE hl hk ha h1 hsh
        cases q with
        | true =>
          have h : some (some i) = some res := h
          cases h
          obtain ⟨g5, g6⟩ := g2 rfl
          refine ⟨fun h => (by cases h), fun j hj => ?_, fun _ => g4⟩
          cases hj
          refine ⟨0, e, rfl, rfl, g5.symm, g6, fun hs => ?_, ?_⟩
          · unfold Instr.findNow
            rw [g3 hs d hd]
          · unfold Instr.findAsking
            rw [Sem.run_bind, g1]
            rfl
        | false =>
          have h : findKs tb kt a ks (Nat.succ i) = some res := h
          obtain ⟨r1, r2, -⟩ := findKs_run hT hE hl ha hsh hd ks es (i + 1) res h h2
          refine ⟨fun hn => ⟨fun hs => ?_, ?_⟩, fun j hj => ?_, fun _ => g4⟩
          · unfold Instr.findNow
            rw [g3 hs d hd]
            exact (r1 hn).1 hs
          · unfold Instr.findAsking
            rw [Sem.run_bind, g1]
            exact (r1 hn).2
          · obtain ⟨k, e', q1, q2, q3, q4, q5, q6⟩ := r2 j hj
            refine ⟨k + 1, e', by omega, by simpa using q2, q3, q4, fun hs => ?_, ?_⟩
            · unfold Instr.findNow
              rw [g3 hs d hd]
              exact q5 hs
            · unfold Instr.findAsking
              rw [Sem.run_bind, g1]
              exact q6
theorem eqT_int (n : Nat) {t : Nat} {ti : TI} (hl : look tb.ty t = some ti) {c : IntKind} (htd : ti.td = .int c) {k : IntKind} {p q : Int} (hk : eqK k k = true) : eqT tb (n + 1) t [.int k p] [.int k q] = some (eqZ p q) := by
  unfold eqT
  simp only [hl, htd, hk, cond_true]
theorem range_two {a b : DV} : range [a, b] 0 1 = some [a] ∧ range [a, b] 1 1 = some [b] := ⟨rfl, rfl⟩
theorem eqT_pair (n : Nat) {kt t1 t2 : Nat} {ti i1 i2 : TI} {c1 c2 : IntKind} (hl : look tb.ty kt = some ti) (htd : ti.td = .struct [(0, t1), (1, t2)]) (hq : has tb.eq kt = true) (hl1 : look tb.ty t1 = some i1) (hl2 : look tb.ty t2 = some i2) (htd1 : i1.td = .int c1) (hs1 : i1.size = 1) (htd2 : i2.td = .int c2) (hs2 : i2.size = 1)
    {k1 k2 : IntKind} {x y u v : Int} (hk1 : eqK k1 k1 = true) (hk2 : eqK k2 k2 = true) : eqT tb (n + 2) kt [.int k1 x, .int k2 y] [.int k1 u, .int k2 v] = some (Bool.rec false (Bool.rec false true (eqZ y v)) (eqZ x u)) := by
  unfold eqT
  simp only [hl, htd, hq, hl1, hl2, hs1, hs2, htd1, htd2, hk1, hk2, cond_true, (range_two (a := DV.int k1 x) (b := DV.int k2 y)).1, (range_two (a := DV.int k1 x) (b := DV.int k2 y)).2, (range_two (a := DV.int k1 u) (b := DV.int k2 v)).1, (range_two (a := DV.int k1 u) (b := DV.int k2 v)).2]
theorem find1_eq {kt : Nat} {ti : TI} (hl : look tb.ty kt = some ti) {k0 : IntKind} (htd : ti.td = .int k0) {k : IntKind} {x : Int} : ∀ (ks : List DV) (i : Nat) (res : Option Nat), find1 k x ks i = some res → findKs tb kt (.int k x) ks i = some res
  | [], i, res, h => h
  | b :: ks, i, res, h => by
    replace h : (match (generalizing := false) b with
      | .int j1 u => Bool.rec none (Bool.rec (find1 k x ks (Nat.succ i)) (some (some i)) (eqZ x u)) (eqK k j1)
      | _ => none : Option (Option Nat)) = some res := h
    show (Option.rec none (fun r => Bool.rec (findKs tb kt (.int k x) ks (Nat.succ i)) (some (some i)) r) (keyEq tb kt (.int k x) b) : Option (Option Nat)) = some res
    split at h
    · rename_i j1 u
      cases hk : eqK k j1 with
      | false => rw [hk] at h; cases h
      | true =>
        rw [hk] at h
        have hkk := hk
        obtain rfl := eqK_eq hk
        have he : eqT tb 5 kt [.int k x] [.int k u] = some (eqZ x u) := eqT_int 4 hl htd hkk
        have hkey : keyEq tb kt (.int k x) (.int k u) = some (eqZ x u) := by
          unfold keyEq
          show (Option.rec none (fun r => Bool.rec (some false) (Option.rec none (fun q => Bool.rec none (some true) q) (litEq [.int k x] [.int k u])) r) (eqT tb 5 kt [.int k x] [.int k u]) : Option Bool) = _
          rw [he]
          cases hz : eqZ x u with
          | false => rfl
          | true =>
            rw [eqZ_eq, beq_iff_eq] at hz
            subst hz
            have : litEq [.int k x] [.int k x] = some true := by simp [litEq, hkk, eqZ_eq]
            show (Option.rec none (fun q => Bool.rec none (some true) q) (litEq [.int k x] [.int k x]) : Option Bool) = _
            rw [this]
        rw [hkey]
        have h : (Bool.rec (find1 k x ks (Nat.succ i)) (some (some i)) (eqZ x u) : Option (Option Nat)) = some res := h
        cases hz : eqZ x u with
        | false => rw [hz] at h; exact find1_eq hl htd ks (Nat.succ i) res h
        | true => rw [hz] at h; exact h
    · cases h
theorem pairT_inv {kt : Nat} (h : pairT tb kt = true) : ∃ ti t1 t2 i1 i2 k1 k2, look tb.ty kt = some ti ∧ ti.td = .struct [(0, t1), (1, t2)] ∧ has tb.eq kt = true ∧ look tb.ty t1 = some i1 ∧ look tb.ty t2 = some i2 ∧ i1.td = .int k1 ∧ i1.size = 1 ∧ i2.td = .int k2 ∧ i2.size = 1 := by
  unfold pairT at h
  cases hl : look tb.ty kt with
  | none => rw [hl] at h; cases h
  | some ti =>
    rw [hl] at h
    have h : (match ti.td with
      | .struct [(0, t1), (1, t2)] => Bool.rec false (match look tb.ty t1, look tb.ty t2 with
          | some { td := .int _, size := 1, .. }, some { td := .int _, size := 1, .. } => true
          | _, _ => false) (has tb.eq kt)
      | _ => false) = true := h
    split at h
    · rename_i t1 t2 htd
      cases hq : has tb.eq kt with
      | false => rw [hq] at h; cases h
      | true =>
        rw [hq] at h
        have h : (match look tb.ty t1, look tb.ty t2 with
          | some { td := .int _, size := 1, .. }, some { td := .int _, size := 1, .. } => true
          | _, _ => false) = true := h
        split at h
        · rename_i k1 z1 b1 k2 z2 b2 h1 h2
          exact ⟨ti, t1, t2, _, _, k1, k2, rfl, htd, rfl, h1, h2, rfl, rfl, rfl, rfl⟩
        · cases h
    · cases h
theorem find2_eq {kt : Nat} (hp : pairT tb kt = true) {k1 k2 : IntKind} {x y : Int} : ∀ (ks : List DV) (i : Nat) (res : Option Nat), find2 k1 k2 x y ks i = some res → findKs tb kt (.agg [.int k1 x, .int k2 y]) ks i = some res
  | [], i, res, h => h
  | b :: ks, i, res, h => by
    obtain ⟨ti, t1, t2, i1, i2, c1, c2, hl, htd, hq, hl1, hl2, htd1, hs1, htd2, hs2⟩ := pairT_inv hp
    replace h : (match (generalizing := false) b with
      | .agg [.int j1 u, .int j2 v] => Bool.rec none (Bool.rec none (Bool.rec (find2 k1 k2 x y ks (Nat.succ i)) (Bool.rec (find2 k1 k2 x y ks (Nat.succ i)) (some (some i)) (eqZ y v)) (eqZ x u)) (eqK k2 j2)) (eqK k1 j1)
      | _ => none : Option (Option Nat)) = some res := h
    show (Option.rec none (fun r => Bool.rec (findKs tb kt (.agg [.int k1 x, .int k2 y]) ks (Nat.succ i)) (some (some i)) r) (keyEq tb kt (.agg [.int k1 x, .int k2 y]) b) : Option (Option Nat)) = some res
    split at h
    · rename_i j1 u j2 v
      cases hk1 : eqK k1 j1 with
      | false => rw [hk1] at h; cases h
      | true =>
        rw [hk1] at h
        cases hk2 : eqK k2 j2 with
        | false => rw [hk2] at h; cases h
        | true =>
          rw [hk2] at h
          have hkk1 := hk1
          have hkk2 := hk2
          obtain rfl := eqK_eq hk1
          obtain rfl := eqK_eq hk2
          have he : eqT tb 5 kt [.int k1 x, .int k2 y] [.int k1 u, .int k2 v] = some (Bool.rec false (Bool.rec false true (eqZ y v)) (eqZ x u)) := eqT_pair 3 hl htd hq hl1 hl2 htd1 hs1 htd2 hs2 hkk1 hkk2
          have hkey : keyEq tb kt (.agg [.int k1 x, .int k2 y]) (.agg [.int k1 u, .int k2 v]) = some (Bool.rec false (Bool.rec false true (eqZ y v)) (eqZ x u)) := by
            unfold keyEq
            show (Option.rec none (fun r => Bool.rec (some false) (Option.rec none (fun q => Bool.rec none (some true) q) (litEq [.int k1 x, .int k2 y] [.int k1 u, .int k2 v])) r) (eqT tb 5 kt [.int k1 x, .int k2 y] [.int k1 u, .int k2 v]) : Option Bool) = _
            rw [he]
            cases hz1 : eqZ x u with
            | false => rfl
            | true =>
              cases hz2 : eqZ y v with
              | false => rfl
              | true =>
                rw [eqZ_eq, beq_iff_eq] at hz1 hz2
                subst hz1 hz2
                have : litEq [.int k1 x, .int k2 y] [.int k1 x, .int k2 y] = some true := by simp [litEq, hkk1, hkk2, eqZ_eq]
                show (Option.rec none (fun q => Bool.rec none (some true) q) (litEq [.int k1 x, .int k2 y] [.int k1 x, .int k2 y]) : Option Bool) = _
                rw [this]
          rw [hkey]
          have h : (Bool.rec (find2 k1 k2 x y ks (Nat.succ i)) (Bool.rec (find2 k1 k2 x y ks (Nat.succ i)) (some (some i)) (eqZ y v)) (eqZ x u) : Option (Option Nat)) = some res := h
          cases hz1 : eqZ x u with
          | false => rw [hz1] at h; exact find2_eq hp ks (Nat.succ i) res h
          | true =>
            rw [hz1] at h
            cases hz2 : eqZ y v with
            | false => rw [hz2] at h; exact find2_eq hp ks (Nat.succ i) res h
            | true => rw [hz2] at h; exact h
    · cases h
theorem findK_Ks {kt : Nat} {a : DV} {ks : List DV} {i : Nat} {res : Option Nat} (h : findK tb kt a ks i = some res) : findKs tb kt a ks i = some res := by
  unfold findK at h
  split at h
  · rename_i k x
    cases hi : intT tb kt with
    | false => rw [hi] at h; exact h
    | true =>
      rw [hi] at h
      unfold intT at hi
      cases hl : look tb.ty kt with
      | none => rw [hl] at hi; cases hi
      | some ti =>
        rw [hl] at hi
        have hi : (match ti.td with | .int _ => true | _ => false) = true := hi
        split at hi
        · rename_i k0 htd
          exact find1_eq hl htd ks i res h
        · cases hi
  · rename_i k1 x k2 y
    cases hi : pairT tb kt with
    | false => rw [hi] at h; exact h
    | true => rw [hi] at h; exact find2_eq hi ks i res h
  · exact h
theorem sameNow_struct (fs : Array Field) (x y : Value) : Instr.sameNow (.struct fs) x y = none := by
  cases x <;> cases y <;> rfl
theorem sameNow_array (n e : Nat) (x y : Value) : Instr.sameNow (.array n e) x y = none := by
  cases x <;> cases y <;> rfl
theorem findKey_run (hT : ∀ t ti, look tb.ty t = some ti → TyOk P t ti) (hE : ∀ t, has tb.eq t = true → EqOk P t) {kt : Nat} {ti : TI} (hl : look tb.ty kt = some ti) {a : DV} {va : Value} (ha : Rep G a va) (hsh : isAgg ti.td = isAggD a)
    {ks : List DV} {es : List MapEntry} {res : Option Nat} (h : findK tb kt a ks 0 = some res) (hr : Reps G ks (es.map (·.key))) :
    (res = none → (Instr.findKey kt va es).run P w = .ok none w) ∧
    (∀ j, res = some j → ∃ e, es[j]? = some e ∧ e.key = va ∧ (∀ n, Instr.sameBits (n + 1) va va = true) ∧ (Instr.findKey kt va es).run P w = .ok (some (j, e.val)) w) := by
  obtain ⟨d, hd1, hd2, hd3⟩ := (hT kt ti hl).desc
  obtain ⟨h1, h2, h3⟩ := findKs_run (w := w) hT hE hl ha hsh hd1 ks es 0 res (findK_Ks h) hr
  cases hs : scalarT ti.td with
  | true =>
    refine ⟨fun hn => ?_, fun j hj => ?_⟩
    · have := (h1 hn).1 hs
      simp [Instr.findKey, run_underlying hd1 w, this]
    · obtain ⟨k, e, q1, q2, q3, q4, q5, q6⟩ := h2 j hj
      have := q5 hs
      obtain rfl : j = k := by omega
      exact ⟨e, q2, q3, q4, by simp [Instr.findKey, run_underlying hd1 w, this]⟩
  | false =>
    cases es with
    | nil =>
      refine ⟨fun hn => ?_, fun j hj => ?_⟩
      · simp [Instr.findKey, run_underlying hd1 w, Instr.findNow]
      · obtain ⟨k, e, q1, q2, -⟩ := h2 j hj
        cases q2
    | cons e0 es0 =>
      have hia := h3 (by simp) hs
      have hnow : Instr.findNow d va (e0 :: es0) 0 = none := by
        unfold Instr.findNow
        have : Instr.sameNow d va e0.key = none := by
          cases hq : ti.td <;> rw [hq] at hia hd2 <;> first | (cases hia; done) | skip
          · obtain ⟨fields, rfl, -⟩ := hd2; exact sameNow_struct _ _ _
          · rename_i n e
            have hd2 : d = .array n e := hd2
            subst hd2; exact sameNow_array _ _ _ _
        rw [this]
      refine ⟨fun hn => ?_, fun j hj => ?_⟩
      · have := (h1 hn).2
        simp [Instr.findKey, run_underlying hd1 w, hnow, this]
      · obtain ⟨k, e, q1, q2, q3, q4, q5, q6⟩ := h2 j hj
        obtain rfl : j = k := by omega
        exact ⟨e, q2, q3, q4, by simp [Instr.findKey, run_underlying hd1 w, hnow, q6]⟩
theorem keyOk_inv (hT : ∀ t ti, look tb.ty t = some ti → TyOk P t ti) (hE : ∀ t, has tb.eq t = true → EqOk P t) {kt : Nat} {a : DV} {va : Value} (h : keyOk tb kt a = true) (ha : Rep G a va) :
    ∃ ti, look tb.ty kt = some ti ∧ isAgg ti.td = isAggD a ∧ ∀ emp, (Instr.checkKey emp 10000 kt va).run P w = .ok () w := by
  unfold keyOk at h
  cases hl : look tb.ty kt with
  | none => rw [hl] at h; cases h
  | some ti =>
    rw [hl] at h
    have h : (bif eqB (isAgg ti.td) (isAggD a) then Option.rec false (fun _ => true) (eqT tb 5 kt (cells a) (cells a)) else false : Bool) = true := h
    cases hs : eqB (isAgg ti.td) (isAggD a) with
    | false => rw [hs] at h; cases h
    | true =>
      rw [hs] at h
      have hs := eqB_true hs
      cases he : eqT tb 5 kt (cells a) (cells a) with
      | none => rw [he] at h; cases h
      | some r =>
        have hhead := eqT_head (n := 4) he hl
        have hna : a ≠ .none := by
          rintro rfl
          rcases hhead with ⟨k, k1, x, y, h1, h2, -⟩ | ⟨x, y, h1, h2, -⟩ | ⟨x, y, h1, h2, -⟩ | ⟨fs, h1⟩
          · cases h2
          · cases h2
          · cases h2
          · rw [h1] at hs; cases hs
        obtain ⟨xs, x1, x2, x3⟩ := rep_cells ha hna
        have sx : Shape ti xs va := by
          cases hi : isAgg ti.td with
          | true => exact .inl ⟨hi, x2 (by rw [← hs, hi])⟩
          | false => exact .inr ⟨hi, x3 (by rw [← hs, hi])⟩
        exact ⟨ti, rfl, hs, fun emp => checkKey_run hT hE emp 5 kt _ _ r ti xs va he hl x1 sx 10000 (by omega)⟩
theorem zero_run (hT : ∀ t ti, look tb.ty t = some ti → TyOk P t ti) {t : Nat} {ti : TI} (hl : look tb.ty t = some ti) {d : DV} {σ σ' : Sto} (h : Runs (whole ti (ti.zero.map lit)) σ d σ') : ∃ z, (zeroValue t).run P w = .ok z w ∧ Rep G d z ∧ σ' = σ := by
  obtain ⟨rfl, hw⟩ := whole_inv h
  obtain ⟨i, z, hi, -, -, hz, hzc⟩ := (hT t ti hl).info
  have hza := (hT t ti hl).zagg i z hi hz
  refine ⟨z, by simp [zeroValue, typeInfo, hi, hz], ?_, rfl⟩
  rcases whole_rep (G := G) hw (reps_lit ti.zero) with ⟨h3, h4⟩ | ⟨h3, v, hv, h4⟩
  · rw [h3] at hza
    cases z <;> first | (cases hza; done) | skip
    rename_i cs
    have : cs = ti.zero.toArray := by rw [← hzc]; rfl
    rw [this]; exact h4
  · rw [h3] at hza
    rw [hv] at hzc
    cases z <;> first | (cases hza; done) | (have hzc := List.cons.inj hzc; rw [hzc.1]; exact h4)
theorem found_inv {ok b : Bool} {v d : DV} {σ σ' : Sto} (h : Runs (found ok b v) σ d σ') : d = (if ok then .tup [v, .bool b] else v) ∧ σ' = σ := by
  unfold found at h
  cases ok with
  | true => exact pur_inv h
  | false => exact pur_inv h
theorem rep_found {ok b : Bool} {v : DV} {x : Value} (h : Rep G v x) : Rep G (if ok then .tup [v, .bool b] else v) (if ok then .tuple #[x, .bool b] else x) := by
  cases ok with
  | false => exact h
  | true =>
    show Rep G (.tup [v, .bool b]) (.tuple #[x, .bool b])
    rw [Rep]
    exact ⟨[x, .bool b], rfl, Reps.cons h (Reps.cons (by rw [Rep]) Reps.nil)⟩
theorem op_lookup (hT : ∀ t ti, look tb.ty t = some ti → TyOk P t ti) (hE : ∀ t, has tb.eq t = true → EqOk P t) {t : Nat} {ok : Bool} {dx di d : DV} {vx vi : Value} {σ σ' : Sto} (h : Runs (opLookup tb t ok dx di) σ d σ') (hx : Rep G dx vx) (hi : Rep G di vi) (I : Inv B0 G σ.c L σ.s w) :
    ∃ v, (Instr.lookup t vx vi ok).run P w = .ok v w ∧ Rep G d v ∧ σ'.c = σ.c ∧ σ'.s = σ.s := by
  unfold opLookup at h
  split at h
  · rename_i kt et z s y hl
    split at h
    · exact (fail_inv h).elim
    · rename_i te hte
      obtain ⟨hk, h⟩ := cond_fail_inv h
      obtain ⟨ti, hlk, hsh, hck⟩ := keyOk_inv (w := w) hT hE hk hi
      obtain ⟨dd, hd1, hd2, -⟩ := (hT t _ hl).desc
      have hd2 : dd = .map kt et := hd2
      subst hd2
      split at h
      · rw [Rep] at hx
        subst hx
        rw [mapR_eq] at h
        obtain ⟨d1, σ1, h1, h2⟩ := h.split (ok_whole _ _)
        obtain ⟨zv, z1, z2, rfl⟩ := zero_run (w := w) (G := G) hT hte h1
        obtain ⟨rfl, rfl⟩ := found_inv h2
        refine ⟨_, ?_, rep_found z2, rfl, rfl⟩
        have hfk : (Instr.findKey kt vi []).run P w = .ok none w := by
          obtain ⟨d2, e1, -⟩ := (hT kt ti hlk).desc
          simp [Instr.findKey, run_underlying e1 w, Instr.findNow]
        cases ok <;> simp [Instr.lookup, run_underlying hd1 w, hck, hfk, z1]
      · rename_i n _
        obtain ⟨r, σ1, h1, h2⟩ := h.split (Ok.rd n)
        obtain ⟨rfl, hc1, hs1⟩ := rd_inv h1
        rw [Rep] at hx
        obtain ⟨B, hB, rfl⟩ := hx
        have ho := I.obj n
        split at h2
        · rename_i clk ks vs bs heq
          rw [heq] at ho
          obtain ⟨B', es, hB', hh, hes, -⟩ := ho
          rw [hB] at hB'; cases hB'
          have hget := run_get (P := P) hh (fun _ _ _ h => by cases h)
          split at h2
          · exact (fail_inv h2).elim
          · rename_i hf
            rw [mapR_eq] at h2
            obtain ⟨d1, σ2, h3, h4⟩ := h2.split (ok_whole _ _)
            obtain ⟨zv, z1, z2, rfl⟩ := zero_run (w := w) (G := G) hT hte h3
            obtain ⟨rfl, rfl⟩ := found_inv h4
            have hfk := (findKey_run (w := w) hT hE hlk hi hsh hf hes.1).1 rfl
            refine ⟨_, ?_, rep_found z2, hc1, hs1⟩
            cases ok <;> simp [Instr.lookup, run_underlying hd1 w, hck, hfk, z1, hget]
          · rename_i j hf
            obtain ⟨v, hv, h3⟩ := opt_inv h2
            rw [seqD_eq] at h3
            obtain ⟨rfl, rfl⟩ := found_inv h3
            obtain ⟨e, q2, q3, q4, q6⟩ := (findKey_run (w := w) hT hE hlk hi hsh hf hes.1).2 j rfl
            rw [nth_eq] at hv
            obtain ⟨u, hu, hrep⟩ := hes.2.1.get hv
            rw [List.getElem?_map, q2] at hu
            cases hu
            refine ⟨_, ?_, rep_found hrep, hc1, hs1⟩
            cases ok <;> simp [Instr.lookup, run_underlying hd1 w, hck, q6, hget]
        · exact (fail_inv h2).elim
      · exact (fail_inv h).elim
  · exact (fail_inv h).elim
theorem op_makeMap {call : Nat → List DV → M DV} {tm : Fr} (hT : ∀ t ti, look tb.ty t = some ti → TyOk P t ti) {t : Nat} {r : Option Operand} {ρ : Operand → Value} {d : DV} {σ σ' : Sto} (h : Runs (evMakeMapOf t r tb call tm) σ d σ') (hr : RepO G (r.map (eval tm)) (r.map ρ)) (I : Inv B0 G σ.c L σ.s w) (hB0 : B0 ≤ w.heap.size) (hL : σ'.c ≤ L) :
    ∃ v w' G', (Instr.makeMap t (r.map ρ)).run P w = .ok v w' ∧ Rep G' d v ∧ G.le G' ∧ Inv B0 G' σ'.c L σ'.s w' ∧ Below B0 w w' := by
  have main : Runs (bind (new (.ents 0 [] [] [])) fun n => pur (.map n)) σ d σ' → ∃ G', Rep G' d (.map (some w.heap.size)) ∧ G.le G' ∧ Inv B0 G' σ'.c L σ'.s (w.alloc (.map #[] 0)) := by
    intro h
    obtain ⟨n, σ1, h1, h2⟩ := h.split (Ok.new _)
    obtain ⟨rfl, hd, hc1, hs1⟩ := new_inv h1
    obtain ⟨rfl, rfl⟩ := pur_inv h2
    obtain ⟨hI, hle⟩ := I.allocObj hB0 (by omega) hd (.map #[] 0) 0 0 (.ents 0 [] [] []) rfl (fun _ e m fz cs h => by cases h) (fun _ => ⟨_, #[], Gh.put_same _ _ _ _, by show (w.heap.push _)[w.heap.size]? = _; simp, ⟨Reps.nil, Reps.nil, rfl⟩, fun b h => by cases h⟩)
    exact ⟨_, by rw [Rep]; exact ⟨_, Gh.put_same _ _ _ _, rfl⟩, hle, by rw [hc1, hs1]; exact hI⟩
  unfold evMakeMapOf at h
  split at h
  · rename_i x kt et z s y hl
    split at h
    · rename_i k n he
      obtain ⟨G', g1, g2, g3⟩ := main h
      obtain ⟨v, hv, hrep⟩ := hr
      rw [he] at hrep
      obtain rfl := rep_int hrep
      obtain ⟨dd, hd1, hd2, -⟩ := (hT t _ hl).desc
      have hd2 : dd = .map kt et := hd2
      subst hd2
      have hv : ρ x = .int k n := by simpa using hv
      exact ⟨_, _, G', by simp [Instr.makeMap, run_underlying hd1 w, hv, asInt, asIntOf], g1, g2, g3, (Below.refl _ _).alloc hB0 _⟩
    · exact (fail_inv h).elim
  · exact (fail_inv h).elim
  · unfold evMakeMap at h
    obtain ⟨G', g1, g2, g3⟩ := main h
    exact ⟨_, _, G', by simp [Instr.makeMap], g1, g2, g3, (Below.refl _ _).alloc hB0 _⟩
theorem modify_list {es : Array MapEntry} {j : Nat} {f : MapEntry → MapEntry} : (es.modify j f).toList = es.toList.modify j f := by simp
theorem modify_map {α β : Type} (g : α → β) (f : α → α) (h : β → β) : ∀ (l : List α) (j : Nat) (e : α), l[j]? = some e → g (f e) = h (g e) → (l.modify j f).map g = (l.map g).modify j h
  | [], j, e, he, _ => by cases he
  | a :: r, 0, e, he, hg => by cases he; simp [hg]
  | a :: r, j + 1, e, he, hg => by
    simp only [List.getElem?_cons_succ] at he
    simp [modify_map g f h r j e he hg]
theorem modify_idle {β : Type} : ∀ (l : List β) (j : Nat), l.modify j (fun x => x) = l
  | [], j => by simp
  | a :: r, 0 => by simp
  | a :: r, j + 1 => by simp [modify_idle r j]
theorem modify_set {β : Type} : ∀ (l : List β) (j : Nat) (x : β), j < l.length → l.modify j (fun _ => x) = l.take j ++ x :: l.drop (j + 1)
  | [], j, x, h => by simp at h
  | a :: r, 0, x, h => by simp
  | a :: r, j + 1, x, h => by
    simp only [List.length_cons] at h
    simp [modify_set r j x (by omega)]
theorem op_mapUpdate (hT : ∀ t ti, look tb.ty t = some ti → TyOk P t ti) (hE : ∀ t, has tb.eq t = true → EqOk P t) {t : Nat} {dm dk dx d : DV} {vm vk vx : Value} {σ σ' : Sto} (h : Runs (opMapUpdate tb t dm dk dx) σ d σ') (hm : Rep G dm vm) (hk : Rep G dk vk) (hx : Rep G dx vx) (I : Inv B0 G σ.c L σ.s w) :
    ∃ w', (Instr.mapUpdate t vm vk vx).run P w = .ok () w' ∧ d = .tup [] ∧ Inv B0 G σ'.c L σ'.s w' ∧ Below B0 w w' := by
  unfold opMapUpdate at h
  split at h
  · rename_i kt et z s y n hl
    obtain ⟨hko, h⟩ := cond_fail_inv h
    obtain ⟨ti, hlk, hsh, hck⟩ := keyOk_inv (w := w) hT hE hko hk
    obtain ⟨dd, hd1, hd2, -⟩ := (hT t _ hl).desc
    have hd2 : dd = .map kt et := hd2
    subst hd2
    obtain ⟨r, σ1, h1, h2⟩ := h.split (Ok.rd n)
    obtain ⟨rfl, hc1, hs1⟩ := rd_inv h1
    rw [Rep] at hm
    obtain ⟨B, hB, rfl⟩ := hm
    have ho := I.obj n
    split at h2
    · rename_i clk ks vs bs heq
      rw [heq] at ho
      obtain ⟨B', es, hB', hh, hes, hbs⟩ := ho
      rw [hB] at hB'; cases hB'
      have hget := run_get (P := P) hh (fun _ _ _ h => by cases h)
      have hset : ∀ o, (setObj B.b o).run P w = .ok () (swap w B.b o) := fun o => run_set hh (fun _ _ _ h => by cases h)
      have hbel := (I.known n 0 B hB).1
      split at h2
      · exact (fail_inv h2).elim
      · rename_i hf
        simp only [appR_eq, seqN_eq] at h2
        obtain ⟨u, σ2, h3, h4⟩ := h2.split (Ok.wr _ _)
        obtain ⟨hd, hc2, hs2⟩ := wr_inv h3
        obtain ⟨rfl, rfl⟩ := pur_inv h4
        have hfk := (findKey_run (w := w) hT hE hlk hk hsh hf hes.1).1 rfl
        refine ⟨swap w B.b (.map (es.push { key := vk, val := vx, born := clk }) (clk + 1)), ?_, rfl, ?_, swap_below hbel _⟩
        · simp [Instr.mapUpdate, run_underlying hd1 w, hget, hck, hfk, hset]
        · rw [hc2, hs2, hc1, hs1]
          refine I.setObj hB (fun e m fz cs h => by rw [heq] at h; cases h) (fun e he => by rw [heq] at he; exact he) (fun e m fz cs h => by cases h) ?_ hd
          refine ⟨B, _, hB, swap_same hh, ⟨?_, ?_, ?_⟩, fun b hb => ?_⟩
          · simp only [Array.toList_push, List.map_append, List.map_cons, List.map_nil]
            exact hes.1.append (Reps.cons hk Reps.nil)
          · simp only [Array.toList_push, List.map_append, List.map_cons, List.map_nil]
            exact hes.2.1.append (Reps.cons hx Reps.nil)
          · simp only [Array.toList_push, List.map_append, List.map_cons, List.map_nil, hes.2.2]
          · rcases List.mem_append.1 hb with hb | hb
            · exact Nat.lt_succ_of_lt (hbs b hb)
            · simp only [List.mem_singleton] at hb; subst hb; exact Nat.lt_succ_self _
      · rename_i j hf
        simp only [appR_eq, takeR_eq, dropR_eq] at h2
        obtain ⟨u, σ2, h3, h4⟩ := h2.split (Ok.wr _ _)
        obtain ⟨hd, hc2, hs2⟩ := wr_inv h3
        obtain ⟨rfl, rfl⟩ := pur_inv h4
        obtain ⟨e, q2, q3, q4, q6⟩ := (findKey_run (w := w) hT hE hlk hk hsh hf hes.1).2 j rfl
        have q2' : es[j]? = some e := by rw [← Array.getElem?_toList]; exact q2
        have hjl : j < es.toList.length := (List.getElem?_eq_some_iff.1 q2).1
        refine ⟨swap w B.b (.map (es.modify j fun e => { e with key := vk, val := vx }) clk), ?_, rfl, ?_, swap_below hbel _⟩
        · have hst : (Instr.keyThatStays vk vk).run P w = .ok vk w := by
            have := q4 9999
            simp [Instr.keyThatStays, this]
          simp [Instr.mapUpdate, run_underlying hd1 w, hget, hck, q6, q2', q3, hst, hset]
        · rw [hc2, hs2, hc1, hs1]
          refine I.setObj hB (fun e m fz cs h => by rw [heq] at h; cases h) (fun e he => by rw [heq] at he; exact he) (fun e m fz cs h => by cases h) ?_ hd
          have e1 : ((es.modify j fun e => { e with key := vk, val := vx }).toList.map (·.key)) = es.toList.map (·.key) := by
            rw [modify_list, modify_map (·.key) _ (fun _ => vk) _ j e q2 rfl, modify_set _ _ _ (by rw [List.length_map]; exact hjl)]
            have : (es.toList.map (·.key))[j]? = some vk := by rw [List.getElem?_map, q2, ← q3]; rfl
            conv => rhs; rw [← List.take_append_drop j (es.toList.map (·.key))]
            congr 1
            have hdc := List.drop_eq_getElem_cons (l := es.toList.map (·.key)) (i := j) (by rw [List.length_map]; exact hjl)
            rw [hdc]
            congr 1
            have h5 := List.getElem?_eq_some_iff.1 this
            exact h5.2.symm
          have e2 : ((es.modify j fun e => { e with key := vk, val := vx }).toList.map (·.born)) = es.toList.map (·.born) := by
            rw [modify_list, modify_map (·.born) _ (fun x => x) _ j e q2 rfl, modify_idle]
          have e3 : ((es.modify j fun e => { e with key := vk, val := vx }).toList.map (·.val)) = (es.toList.map (·.val)).take j ++ vx :: (es.toList.map (·.val)).drop (j + 1) := by
            rw [modify_list, modify_map (·.val) _ (fun _ => vx) _ j e q2 rfl, modify_set _ _ _ (by rw [List.length_map]; exact hjl)]
          refine ⟨B, _, hB, swap_same hh, ⟨by rw [e1]; exact hes.1, ?_, by rw [e2]; exact hes.2.2⟩, hbs⟩
          rw [e3]
          exact (hes.2.1.take j).append (Reps.cons hx (hes.2.1.drop (j + 1)))
    · exact (fail_inv h2).elim
  · exact (fail_inv h).elim
end Go.E
end
section
namespace Go.E
open Go Go.RowKit
variable {P : Program} {B0 L : Nat} {G : Gh} {w : World} {tb : Tab}
theorem swap_id {b : Nat} {o : Obj} (h : w.heap[b]? = some o) : swap w b o = w := by
  unfold swap
  have : w.heap.setIfInBounds b o = w.heap := by
    apply Array.ext_getElem?
    intro i
    by_cases hi : i = b
    · subst hi
      have hlt : i < w.heap.size := (Array.getElem?_eq_some_iff.1 h).1
      rw [h]; simp [hlt]
    · exact Array.getElem?_setIfInBounds_ne (Ne.symm hi)
  rw [this]
theorem Reps.erase {l : List DV} {vs : List Value} (h : Reps G l vs) (j : Nat) : Reps G (l.take j ++ l.drop (j + 1)) (vs.take j ++ vs.drop (j + 1)) := (h.take j).append (h.drop (j + 1))
theorem erase_list (es : Array MapEntry) (j : Nat) : (es.eraseIdxIfInBounds j).toList = es.toList.take j ++ es.toList.drop (j + 1) := by
  by_cases h : j < es.size
  · rw [Array.eraseIdxIfInBounds, dif_pos h]
    simp [List.eraseIdx_eq_take_drop_succ]
  · rw [Array.eraseIdxIfInBounds, dif_neg h]
    rw [List.take_of_length_le (by simpa using h), List.drop_eq_nil_of_le (by simp; omega)]
    simp
theorem op_delete (hT : ∀ t ti, look tb.ty t = some ti → TyOk P t ti) (hE : ∀ t, has tb.eq t = true → EqOk P t) {t ty : Nat} {r : Array TypeId} {dm dk d : DV} {vm vk : Value} {σ σ' : Sto} (h : Runs (opDelete tb t dm dk) σ d σ') (hm : Rep G dm vm) (hk : Rep G dk vk) (hr : r[0]? = some t) (I : Inv B0 G σ.c L σ.s w) :
    ∃ v w', (Builtin.delete_ r ty #[vm, vk]).run P w = .ok v w' ∧ Rep G d v ∧ Inv B0 G σ'.c L σ'.s w' ∧ Below B0 w w' := by
  unfold opDelete at h
  split at h
  · rename_i kt et z s y n hl
    obtain ⟨hko, h⟩ := cond_fail_inv h
    obtain ⟨ti, hlk, hsh, hck⟩ := keyOk_inv (w := w) hT hE hko hk
    obtain ⟨dd, hd1, hd2, -⟩ := (hT t _ hl).desc
    have hd2 : dd = .map kt et := hd2
    subst hd2
    obtain ⟨r1, σ1, h1, h2⟩ := h.split (Ok.rd n)
    obtain ⟨rfl, hc1, hs1⟩ := rd_inv h1
    rw [Rep] at hm
    obtain ⟨B, hB, rfl⟩ := hm
    have ho := I.obj n
    have hunit : Rep G (.tup []) (.tuple #[]) := by rw [Rep]; exact ⟨[], rfl, Reps.nil⟩
    split at h2
    · rename_i clk ks vs bs heq
      rw [heq] at ho
      obtain ⟨B', es, hB', hh, hes, hbs⟩ := ho
      rw [hB] at hB'; cases hB'
      have hget := run_get (P := P) hh (fun _ _ _ h => by cases h)
      have hset : ∀ o, (setObj B.b o).run P w = .ok () (swap w B.b o) := fun o => run_set hh (fun _ _ _ h => by cases h)
      have hbel := (I.known n 0 B hB).1
      split at h2
      · exact (fail_inv h2).elim
      · rename_i hf
        obtain ⟨rfl, rfl⟩ := pur_inv h2
        have hfk := (findKey_run (w := w) hT hE hlk hk hsh hf hes.1).1 rfl
        refine ⟨.tuple #[], w, ?_, hunit, by rw [hc1, hs1]; exact I, .refl _ _⟩
        have := hset (.map es clk)
        rw [swap_id hh] at this
        simp [Builtin.delete_, hr, run_underlying hd1 w, hget, hck, hfk, this]
      · rename_i j hf
        simp only [without_eq] at h2
        obtain ⟨u, σ2, h3, h4⟩ := h2.split (Ok.wr _ _)
        obtain ⟨hd, hc2, hs2⟩ := wr_inv h3
        obtain ⟨rfl, rfl⟩ := pur_inv h4
        obtain ⟨e, q2, q3, q4, q6⟩ := (findKey_run (w := w) hT hE hlk hk hsh hf hes.1).2 j rfl
        refine ⟨.tuple #[], swap w B.b (.map (es.eraseIdxIfInBounds j) clk), ?_, hunit, ?_, swap_below hbel _⟩
        · simp [Builtin.delete_, hr, run_underlying hd1 w, hget, hck, q6, hset]
        · rw [hc2, hs2, hc1, hs1]
          refine I.setObj hB (fun e m fz cs h => by rw [heq] at h; cases h) (fun e he => by rw [heq] at he; exact he) (fun e m fz cs h => by cases h) ?_ hd
          refine ⟨B, _, hB, swap_same hh, ⟨?_, ?_, ?_⟩, fun b hb => hbs b ?_⟩
          · rw [erase_list, List.map_append, List.map_take, List.map_drop]; exact hes.1.erase j
          · rw [erase_list, List.map_append, List.map_take, List.map_drop]; exact hes.2.1.erase j
          · rw [erase_list, List.map_append, List.map_take, List.map_drop, hes.2.2]
          · rcases List.mem_append.1 hb with hb | hb
            · exact List.mem_of_mem_take hb
            · exact List.mem_of_mem_drop hb
    · exact (fail_inv h2).elim
  · exact (fail_inv h).elim
theorem op_range (hT : ∀ t ti, look tb.ty t = some ti → TyOk P t ti) {t : Nat} {dx d : DV} {vx : Value} {σ σ' : Sto} (h : Runs (opRange tb t dx) σ d σ') (hx : Rep G dx vx) (I : Inv B0 G σ.c L σ.s w) (hB0 : B0 ≤ w.heap.size) (hL : σ'.c ≤ L) :
    ∃ v w' G', (Instr.range t vx).run P w = .ok v w' ∧ Rep G' d v ∧ G.le G' ∧ Inv B0 G' σ'.c L σ'.s w' ∧ Below B0 w w' := by
  unfold opRange at h
  split at h
  · rename_i kt et z s y hl
    obtain ⟨dd, hd1, hd2, -⟩ := (hT t _ hl).desc
    have hd2 : dd = .map kt et := hd2
    subst hd2
    rw [Rep] at hx
    subst hx
    obtain ⟨n, σ1, h1, h2⟩ := h.split (Ok.new _)
    obtain ⟨rfl, hd, hc1, hs1⟩ := new_inv h1
    obtain ⟨rfl, rfl⟩ := pur_inv h2
    obtain ⟨hI, hle⟩ := I.allocObj hB0 (by omega) hd (.mapIter none 0 #[] 0) 0 0 (.iter true 0 0 [] 0) rfl (fun _ e m fz cs h => by cases h) (fun _ => ⟨_, none, Gh.put_same _ _ _ _, by show (w.heap.push _)[w.heap.size]? = _; simp, fun _ => rfl, fun h => by cases h⟩)
    exact ⟨_, _, _, by simp [Instr.range, run_underlying hd1 w]; exact ⟨rfl, rfl⟩, by rw [Rep]; exact ⟨_, Gh.put_same _ _ _ _, by simp, by simp, by simp⟩, hle, by rw [hc1, hs1]; exact hI, (Below.refl _ _).alloc hB0 _⟩
  · rename_i kt et z s y m hl
    obtain ⟨dd, hd1, hd2, -⟩ := (hT t _ hl).desc
    have hd2 : dd = .map kt et := hd2
    subst hd2
    obtain ⟨r1, σ0, h0, h⟩ := h.split (Ok.rd m)
    obtain ⟨rfl, hc0, hs0⟩ := rd_inv h0
    rw [Rep] at hx
    obtain ⟨B, hB, rfl⟩ := hx
    have ho := I.obj m
    split at h
    · rename_i clk ks vs bs heq
      rw [heq] at ho
      obtain ⟨B', es, hB', hh, hes, hbs⟩ := ho
      rw [hB] at hB'; cases hB'
      have hget := run_get (P := P) hh (fun _ _ _ h => by cases h)
      obtain ⟨n, σ1, h1, h2⟩ := h.split (Ok.new _)
      obtain ⟨rfl, hd, hc1, hs1⟩ := new_inv h1
      obtain ⟨rfl, rfl⟩ := pur_inv h2
      rw [hc0] at hd hc1 hs1
      rw [hs0] at hs1
      obtain ⟨hI, hle⟩ := I.allocObj hB0 (by omega) hd (.mapIter (some B.b) clk #[] clk) 0 0 (.iter false m clk [] clk) rfl (fun _ e m fz cs h => by cases h) (fun hle => ⟨_, some B.b, Gh.put_same _ _ _ _, by show (w.heap.push _)[w.heap.size]? = _; simp, (fun h => by cases h), fun _ => ⟨B, hle _ _ _ hB, rfl⟩⟩)
      exact ⟨_, _, _, by simp [Instr.range, run_underlying hd1 w, hget]; exact ⟨rfl, rfl⟩, by rw [Rep, hc0]; exact ⟨_, Gh.put_same _ _ _ _, by simp, by simp, by simp⟩, hle, by rw [hc1, hs1]; exact hI, (Below.refl _ _).alloc hB0 _⟩
    · exact (fail_inv h).elim
  · exact (fail_inv h).elim
theorem has_contains (l : List Nat) (b : Nat) : l.toArray.contains b = has l b := by
  rw [Bool.eq_iff_iff, has_iff]; simp
theorem unseen_inv {seen : List Nat} : ∀ (es : List MapEntry) (i : Nat), (unseen seen (es.map (·.born)) i = [] → es.filter (fun e => !seen.toArray.contains e.born) = []) ∧
    ∀ j b, unseen seen (es.map (·.born)) i = [(j, b)] → ∃ k e, j = i + k ∧ es[k]? = some e ∧ e.born = b ∧ es.filter (fun e => !seen.toArray.contains e.born) = [e]
  | [], i => ⟨fun _ => rfl, fun j b h => by cases h⟩
  | e :: es, i => by
    obtain ⟨h1, h2⟩ := unseen_inv (seen := seen) es (i + 1)
    have hu : unseen seen ((e :: es).map (·.born)) i = if has seen e.born = true then unseen seen (es.map (·.born)) (i + 1) else (i, e.born) :: unseen seen (es.map (·.born)) (i + 1) := by
      show (Bool.rec ((i, e.born) :: unseen seen (es.map (·.born)) (Nat.succ i)) (unseen seen (es.map (·.born)) (Nat.succ i)) (has seen e.born) : List (Nat × Nat)) = _
      cases has seen e.born <;> rfl
    rw [hu]
    cases hb : has seen e.born with
    | true =>
      rw [if_pos rfl]
      rw [List.filter_cons_of_neg (by rw [has_contains, hb]; simp)]
      refine ⟨h1, fun j b h => ?_⟩
      obtain ⟨k, e', q1, q2, q3⟩ := h2 j b h
      exact ⟨k + 1, e', by omega, by simpa using q2, q3⟩
    | false =>
      rw [if_neg (by simp)]
      rw [List.filter_cons_of_pos (by rw [has_contains, hb]; rfl)]
      refine ⟨fun h => (by cases h), fun j b h => ?_⟩
      have h3 := (List.cons.inj h).1
      have h4 := (List.cons.inj h).2
      cases h3
      exact ⟨0, e, rfl, rfl, rfl, by rw [h1 h4]⟩
theorem op_next {ty : TypeId} {di d : DV} {vi : Value} {σ σ' : Sto} (h : Runs (opNext di) σ d σ') (hi : Rep G di vi) (I : Inv B0 G σ.c L σ.s w) :
    ∃ v w', (Instr.next vi false ty).run P w = .ok v w' ∧ Rep G d v ∧ Inv B0 G σ'.c L σ'.s w' ∧ Below B0 w w' := by
  have hover : Rep G (.tup [.bool false]) (.tuple #[.bool false]) := by rw [Rep]; exact ⟨[.bool false], rfl, Reps.cons (by rw [Rep]) Reps.nil⟩
  unfold opNext at h
  split at h
  · rename_i n
    rw [Rep] at hi
    obtain ⟨B, hB, rfl, hsh, -⟩ := hi
    have hsh0 : 0 - B.sh = 0 := by omega
    rw [hsh0]
    obtain ⟨r1, σ1, h1, h⟩ := h.split (Ok.rd n)
    obtain ⟨rfl, hc1, hs1⟩ := rd_inv h1
    have ho := I.obj n
    split at h
    · rename_i m0 since seen last heq
      rw [heq] at ho
      obtain ⟨B', r, hB', hh, hr, -⟩ := ho
      rw [hB] at hB'; cases hB'
      obtain rfl := hr rfl
      obtain ⟨rfl, rfl⟩ := pur_inv h
      have hget := run_get (P := P) hh (fun _ _ _ h => by cases h)
      exact ⟨.tuple #[.bool false], w, by simp [Instr.next, hget], hover, by rw [hc1, hs1]; exact I, .refl _ _⟩
    · rename_i m since seen last heq
      rw [heq] at ho
      obtain ⟨B', r, hB', hh, -, hr⟩ := ho
      rw [hB] at hB'; cases hB'
      obtain ⟨Bm, hBm, rfl⟩ := hr rfl
      have hget := run_get (P := P) hh (fun _ _ _ h => by cases h)
      have hset : ∀ o, (setObj B.b o).run P w = .ok () (swap w B.b o) := fun o => run_set hh (fun _ _ _ h => by cases h)
      obtain ⟨r2, σ2, h2, h⟩ := h.split (Ok.rd m)
      obtain ⟨rfl, hc2, hs2⟩ := rd_inv h2
      rw [hs1] at h
      have hom := I.obj m
      split at h
      · rename_i clk ks vs bs heqm
        rw [heqm] at hom
        obtain ⟨Bm', es, hBm', hhm, hes, hbs⟩ := hom
        rw [hBm] at hBm'; cases hBm'
        have hgetm := run_get (P := P) hhm (fun _ _ _ h => by cases h)
        obtain ⟨u1, u2⟩ := unseen_inv (seen := seen) es.toList 0
        rw [hes.2.2] at u1 u2
        split at h
        · rename_i hun
          have hleft : (es.filter fun e => !seen.toArray.contains e.born) = #[] := by
            apply Array.ext'
            rw [Array.toList_filter, u1 hun]
          have hfin : ∀ (hc : (!seen.toArray.isEmpty && !es.isEmpty && es.all (fun e => decide (e.born ≥ last))) = false), (Instr.next (.pointer (some ⟨B.b, 0, none⟩)) false ty).run P w = .ok (.tuple #[.bool false]) w := by
            intro hc
            simp only [Instr.next, getObj, Sem.run_bind, Sem.run, hh, hhm, Result.andThen, hc, Bool.false_eq_true, if_false, hleft]
            simp [choose, Sem.run, Question.forced]
          split at h
          · obtain ⟨rfl, rfl⟩ := pur_inv h
            exact ⟨_, w, hfin (by simp), hover, by rw [hc2, hs2, hc1, hs1]; exact I, .refl _ _⟩
          · obtain ⟨rfl, rfl⟩ := pur_inv h
            have hes0 : es = #[] := by
              apply Array.ext'
              exact List.map_eq_nil_iff.1 hes.2.2
            exact ⟨_, w, hfin (by simp [hes0]), hover, by rw [hc2, hs2, hc1, hs1]; exact I, .refl _ _⟩
          · rename_i b _ _
            obtain ⟨hb, h⟩ := cond_fail_inv h
            obtain ⟨rfl, rfl⟩ := pur_inv h
            have hb : b < last := Nat.le_of_ble_eq_true hb
            refine ⟨_, w, hfin ?_, hover, by rw [hc2, hs2, hc1, hs1]; exact I, .refl _ _⟩
            have : es.all (fun e => decide (e.born ≥ last)) = false := by
              have hq := hes.2.2
              rw [← Array.all_toList]
              cases hl : es.toList with
              | nil => rw [hl] at hq; cases hq
              | cons e r =>
                rw [hl] at hq
                simp only [List.map_cons, List.cons.injEq] at hq
                rw [List.all_cons]
                have : decide (e.born ≥ last) = false := decide_eq_false (by rw [hq.1]; omega)
                rw [this]; rfl
            rw [this]; simp
        · rename_i j b hun
          obtain ⟨hb, h⟩ := cond_fail_inv h
          have hb : b < since := Nat.le_of_ble_eq_true hb
          split at h
          · rename_i k v hk hv _ _
            rw [appR_eq] at h
            obtain ⟨u, σ3, h3, h4⟩ := h.split (Ok.wr _ _)
            obtain ⟨hd, hc3, hs3⟩ := wr_inv h3
            obtain ⟨rfl, rfl⟩ := pur_inv h4
            obtain ⟨k', e, q1, q2, q3, q4⟩ := u2 j b hun
            obtain rfl : j = k' := by omega
            have hleft : (es.filter fun e => !(#[] : Array Nat).contains e.born) = #[e] := by
              apply Array.ext'
              rw [Array.toList_filter]; exact q4
            have hold : (#[e] : Array MapEntry).filter (fun e => decide (e.born < since)) = #[e] := by
              have : decide (e.born < since) = true := by rw [q3]; simpa using hb
              simp [this]
            have hnew : (#[e] : Array MapEntry).filter (fun e => decide (e.born ≥ since)) = #[] := by
              have : decide (e.born ≥ since) = false := by rw [q3]; simp; omega
              simp [this]
            rw [nth_eq] at hk hv
            obtain ⟨vk, e1, e2⟩ := hes.1.get hk
            obtain ⟨vv, e3, e4⟩ := hes.2.1.get hv
            rw [List.getElem?_map, q2] at e1 e3
            cases e1; cases e3
            refine ⟨.tuple #[.bool true, e.key, e.val], swap w B.b (.mapIter (some Bm.b) since #[b] clk), ?_, ?_, ?_, swap_below (I.known n 0 B hB).1 _⟩
            · have hc : (!(#[] : Array Nat).isEmpty && !es.isEmpty && es.all fun x => decide (x.born ≥ last)) = false := by simp
              have hset' := hset (.mapIter (some Bm.b) since #[b] clk)
              simp only [Instr.next, getObj, Sem.run_bind, Sem.run, hh, hhm, Result.andThen, hc, Bool.false_eq_true, if_false, hleft, hold, hnew]
              simp [choose, Sem.run, Question.forced, q3, hset']
            · rw [Rep]
              exact ⟨[.bool true, e.key, e.val], rfl, Reps.cons (by rw [Rep]) (Reps.cons e2 (Reps.cons e4 Reps.nil))⟩
            · rw [hc3, hs3, hc2, hs2, hc1, hs1]
              refine I.setObj hB (fun e m fz cs h => by rw [heq] at h; cases h) (fun e he => by rw [heq] at he; exact he) (fun e m fz cs h => by cases h) ?_ hd
              exact ⟨B, some Bm.b, hB, swap_same hh, (fun h => by cases h), fun _ => ⟨Bm, hBm, rfl⟩⟩
          · exact (fail_inv h).elim
        · exact (fail_inv h).elim
      · exact (fail_inv h).elim
    · exact (fail_inv h).elim
  · exact (fail_inv h).elim
theorem op_entry {di d : DV} {vi : Value} {σ σ' : Sto} (h : Runs (opEntry di) σ d σ') (hi : Rep G di vi) (I : Inv B0 G σ.c L σ.s w) :
    ∃ v, (Instr.entry vi).run P w = .ok v w ∧ Rep G d v ∧ σ'.c = σ.c ∧ σ'.s = σ.s := by
  unfold opEntry at h
  split at h
  · rename_i n
    rw [Rep] at hi
    obtain ⟨B, hB, rfl, hsh, -⟩ := hi
    have hsh0 : 0 - B.sh = 0 := by omega
    rw [hsh0]
    obtain ⟨r1, σ1, h1, h⟩ := h.split (Ok.rd n)
    obtain ⟨rfl, hc1, hs1⟩ := rd_inv h1
    have ho := I.obj n
    split at h
    · rename_i m since b last heq
      rw [heq] at ho
      obtain ⟨B', r, hB', hh, -, hr⟩ := ho
      rw [hB] at hB'; cases hB'
      obtain ⟨Bm, hBm, rfl⟩ := hr rfl
      have hget := run_get (P := P) hh (fun _ _ _ h => by cases h)
      obtain ⟨r2, σ2, h2, h⟩ := h.split (Ok.rd m)
      obtain ⟨rfl, hc2, hs2⟩ := rd_inv h2
      rw [hs1] at h
      have hom := I.obj m
      split at h
      · rename_i clk k v b' heqm
        rw [heqm] at hom
        obtain ⟨Bm', es, hBm', hhm, hes, hbs⟩ := hom
        rw [hBm] at hBm'; cases hBm'
        have hgetm := run_get (P := P) hhm (fun _ _ _ h => by cases h)
        obtain ⟨hb, h⟩ := cond_fail_inv h
        rw [Bool.and_eq_true] at hb
        have hb1 := Nat.eq_of_beq_eq_true hb.1
        have hb2 := Nat.eq_of_beq_eq_true hb.2
        obtain ⟨rfl, rfl⟩ := pur_inv h
        subst hb1 hb2
        obtain ⟨vk, r', e1, e2, e3⟩ := Reps.cons_iff.1 hes.1
        rw [Reps.nil_iff] at e3; subst e3
        obtain ⟨vv, r'', e4, e5, e6⟩ := Reps.cons_iff.1 hes.2.1
        rw [Reps.nil_iff] at e6; subst e6
        have hlen : es.toList.length = 1 := by have := congrArg List.length e1; simpa using this
        obtain ⟨e, he⟩ := List.length_eq_one_iff.1 hlen
        have hes' : es = #[e] := by apply Array.ext'; rw [he]
        subst hes'
        simp at e1 e4
        have hbn : e.born = b := by have := hes.2.2; simpa using this
        subst e1 e4
        refine ⟨.tuple #[e.key, e.val], ?_, ?_, hc2.trans hc1, hs2.trans hs1⟩
        · simp [Instr.entry, hget, hgetm, hbn]
        · rw [Rep]
          exact ⟨[e.key, e.val], rfl, Reps.cons e2 (Reps.cons e5 Reps.nil)⟩
      · exact (fail_inv h).elim
    · exact (fail_inv h).elim
  · exact (fail_inv h).elim
end Go.E
end
section
namespace Go.E
open Go Go.RowKit
variable {P : Program} {B0 L : Nat} {G : Gh} {w : World}
def Res (P : Program) (B0 L : Nat) (call : Nat → List DV → M DV) (G : Gh) (w : World) (ρ : Operand → Value) (o : Oper) (d : DV) (σ σ' : Sto) : Prop :=
  (∃ v w' G', ((execOp ρ o).run P w = .ok (.value v) w' ∨ (v = undef ∧ (execOp ρ o).run P w = .ok .skip w')) ∧ Rep G' d v ∧ G.le G' ∧ Inv B0 G' σ'.c L σ'.s w' ∧ Below B0 w w') ∨
  (∃ g ds vs, Runs (outer (call g ds)) σ d σ' ∧ Reps G ds vs ∧ (execOp ρ o).run P w = (callFunc g vs.toArray).run P w)
variable {call : Nat → List DV → M DV} {ρ : Operand → Value} {o : Oper} {d : DV} {σ σ' : Sto}
theorem Res.still (I : Inv B0 G σ.c L σ.s w) {v : Value} (hr : (execOp ρ o).run P w = .ok (.value v) w) (hd : Rep G d v) (hc : σ'.c = σ.c) (hs : σ'.s = σ.s) : Res P B0 L call G w ρ o d σ σ' :=
  .inl ⟨v, w, G, .inl hr, hd, .refl G, by rw [hc, hs]; exact I, .refl _ _⟩
theorem Res.move {v : Value} {w' : World} {G' : Gh} (hr : (execOp ρ o).run P w = .ok (.value v) w') (hd : Rep G' d v) (hle : G.le G') (I : Inv B0 G' σ'.c L σ'.s w') (hb : Below B0 w w') : Res P B0 L call G w ρ o d σ σ' :=
  .inl ⟨v, w', G', .inl hr, hd, hle, I, hb⟩
theorem parts_rep {tm : Fr} (ps : List (Nat × Operand)) (h : ∀ x ∈ ps.map (·.2), Rep G (eval tm x) (ρ x)) : Parts G (ps.map fun p => (p.1, eval tm p.2)) (ps.map fun p => (p.1, ρ p.2)) := by
  induction ps with
  | nil => rfl
  | cons p r ih => exact ⟨ρ p.2, _, rfl, h _ (by simp), ih fun x hx => h x (by simp at hx ⊢; exact .inr hx)⟩
theorem evals_rep {tm : Fr} : ∀ (xs : List Operand), (∀ x ∈ xs, Rep G (eval tm x) (ρ x)) → Reps G (xs.map (eval tm)) (xs.map ρ)
  | [], _ => Reps.nil
  | x :: r, h => Reps.cons (h x (by simp)) (evals_rep r fun y hy => h y (by simp [hy]))
theorem opt_rep {tm : Fr} (x : Option Operand) (h : ∀ y ∈ x, Rep G (eval tm y) (ρ y)) : RepO G (x.map (eval tm)) (x.map ρ) := by
  cases x with
  | none => rfl
  | some y => exact ⟨ρ y, rfl, h y rfl⟩
theorem evals_eq {β : Type _} (tm : Fr) (xs : List Operand) (k : List DV → β) : evals tm xs k = k (xs.map (eval tm)) := by
  unfold evals
  rw [mapR_eq, seqLD_eq]
theorem append_congr {r : Array TypeId} {t t' ty : TypeId} {args : Array Value} (h0 : r[0]? = some t) (h1 : r[1]? = some t') : Builtin.append_ r ty args = Builtin.append_ #[t, t'] ty args := by
  unfold Builtin.append_
  rw [h0, h1]; rfl
theorem copy_congr {r : Array TypeId} {t t' ty : TypeId} {args : Array Value} (h0 : r[0]? = some t) : Builtin.copy_ r ty args = Builtin.copy_ #[t, t'] ty args := by
  unfold Builtin.copy_
  rw [h0]; rfl
theorem run_builtin {dst : Option Tmp} {b : Builtin} {c : Call} {type : TypeId} {pos : String} {after : Array Edge} {guard : Option (Nat × Bool)} (hb : c.callee = .builtin b) : (execOp ρ ⟨dst, .call c, type, pos, after, guard⟩) = (builtin b c.argTypes type (c.args.map fun | .const _ => true | _ => false) (c.args.map ρ)) := by
  simp only [execOp, resolve, hb]
  rfl
theorem evCall_sound {tb : Tab} (hT : ∀ t ti, look tb.ty t = some ti → TyOk P t ti) (hE : ∀ t, has tb.eq t = true → EqOk P t) {tm : Fr} {c : Call} {dst : Option Tmp} {type : TypeId} {pos : String} {after : Array Edge} {guard : Option (Nat × Bool)} (h : Runs (evCall tb call tm c) σ d σ') (hx : ∀ x ∈ c.operands, Rep G (eval tm x) (ρ x))
    (I : Inv B0 G σ.c L σ.s w) (hB0 : B0 ≤ w.heap.size) (hL : σ'.c ≤ L) : Res P B0 L call G w ρ ⟨dst, .call c, type, pos, after, guard⟩ d σ σ' := by
  have hargs : ∀ x ∈ c.args.toList, Rep G (eval tm x) (ρ x) := fun x hm => hx x (by
    unfold Call.operands
    split <;> simp [Array.mem_toList_iff.1 hm])
  unfold evCall at h
  split at h
  · -- a function value
    rename_i f hcal
    have hf : Rep G (eval tm f) (ρ f) := hx f (by unfold Call.operands; rw [hcal]; simp)
    split at h
    · rename_i g fs cap he
      rw [he, Rep] at hf
      obtain ⟨us, vs, hρ, hus, hvs⟩ := hf
      rw [evals_eq] at h
      have hr := evals_rep (G := G) (tm := tm) (ρ := ρ) c.args.toList hargs
      have hrun : ∀ (as : Array Value), as = us.toArray ++ c.args.map ρ ++ vs.toArray → (execOp ρ ⟨dst, .call c, type, pos, after, guard⟩).run P w = (callFunc g as).run P w := by
        rintro as rfl
        simp only [execOp, resolve, hcal, hρ, Deferred.ofValue, Sem.run_bind, Sem.run_pure, Result.andThen_ok, invoke]
      have gen : Runs (outer (call g (fs ++ c.args.toList.map (eval tm) ++ cap))) σ d σ' → Res P B0 L call G w ρ ⟨dst, .call c, type, pos, after, guard⟩ d σ σ' := by
        intro h
        refine .inr ⟨g, _, _, h, (hus.append hr).append hvs, ?_⟩
        refine hrun _ ?_
        apply Array.ext'; simp
      split at h
      · rw [Reps.nil_iff] at hus hvs
        subst hus hvs
        refine .inr ⟨g, _, _, h, hr, ?_⟩
        refine hrun _ ?_
        apply Array.ext'; simp
      · exact gen h
    · exact (fail_inv h).elim
  · -- len
    rename_i x t ts hcal hxs hts
    have hx1 := hargs x (by rw [hxs]; simp)
    have hmap : c.args.map ρ = #[ρ x] := by apply Array.ext'; simp [hxs]
    have ht : c.argTypes[0]? = some t := by rw [← Array.getElem?_toList, hts]; rfl
    obtain ⟨v, h1, h2, h3, h4⟩ := op_len (ty := type) (w := w) hT h hx1 ht I
    refine Res.still I ?_ h2 h3 h4
    rw [run_builtin hcal, hmap]
    simp only [builtin, Sem.run_bind, h1, Result.andThen_ok, Sem.run_pure]
  · -- append
    rename_i s x t t' ts hcal hxs hts
    have hx1 := hargs s (by rw [hxs]; simp)
    have hx2 := hargs x (by rw [hxs]; simp)
    have hmap : c.args.map ρ = #[ρ s, ρ x] := by apply Array.ext'; simp [hxs]
    have ht : c.argTypes[0]? = some t := by rw [← Array.getElem?_toList, hts]; rfl
    have ht' : c.argTypes[1]? = some t' := by rw [← Array.getElem?_toList, hts]; rfl
    simp only [seqD_eq] at h
    obtain ⟨v, w', G', h1, h2, h3, h4, h5⟩ := op_append (ty := type) hT h hx1 hx2 I hB0 hL
    refine Res.move ?_ h2 h3 h4 h5
    rw [run_builtin hcal, hmap]
    simp only [builtin, Sem.run_bind, append_congr ht ht', h1, Result.andThen_ok, Sem.run_pure]
  · -- copy
    rename_i s x t t' ts hcal hxs hts
    have hx1 := hargs s (by rw [hxs]; simp)
    have hx2 := hargs x (by rw [hxs]; simp)
    have hmap : c.args.map ρ = #[ρ s, ρ x] := by apply Array.ext'; simp [hxs]
    have ht : c.argTypes[0]? = some t := by rw [← Array.getElem?_toList, hts]; rfl
    simp only [seqD_eq] at h
    obtain ⟨v, w', h1, h2, h4, h5⟩ := op_copy (ty := type) hT h hx1 hx2 I
    refine Res.move ?_ h2 (.refl G) h4 h5
    rw [run_builtin hcal, hmap]
    simp only [builtin, Sem.run_bind, copy_congr (t' := t') ht, h1, Result.andThen_ok, Sem.run_pure]
  · -- delete
    rename_i m k t ts hcal hxs hts
    have hx1 := hargs m (by rw [hxs]; simp)
    have hx2 := hargs k (by rw [hxs]; simp)
    have hmap : c.args.map ρ = #[ρ m, ρ k] := by apply Array.ext'; simp [hxs]
    have ht : c.argTypes[0]? = some t := by rw [← Array.getElem?_toList, hts]; rfl
    simp only [seqD_eq] at h
    obtain ⟨v, w', h1, h2, h4, h5⟩ := op_delete (ty := type) hT hE h hx1 hx2 ht I
    refine Res.move ?_ h2 (.refl G) h4 h5
    rw [run_builtin hcal, hmap]
    simp only [builtin, Sem.run_bind, h1, Result.andThen_ok, Sem.run_pure]
  · -- max
    rename_i hcal
    have hxs2 : ∃ a b, c.args.toList = [a, b] := by
      obtain ⟨h1, -⟩ := orNf_inv h
      unfold maxes at h1
      split at h1
      · rename_i heq
        rcases hq : c.args.toList with _ | ⟨a, _ | ⟨b, _ | ⟨e, r⟩⟩⟩ <;> rw [hq] at heq <;> simp at heq
        exact ⟨a, b, rfl⟩
      · cases h1
    obtain ⟨a, b, hq⟩ := hxs2
    rw [hq] at h
    have hx1 := hargs a (by rw [hq]; simp)
    have hx2 := hargs b (by rw [hq]; simp)
    have hmap : c.args.map ρ = #[ρ a, ρ b] := by apply Array.ext'; simp [hq]
    obtain ⟨k, x, y, e1, e2, rfl, rfl⟩ := max_run (t := 0) (r := #[]) h hx1 hx2
    refine Res.still I (v := .int k (if y ≤ x then x else y)) ?_ (by rw [Rep]) rfl rfl
    rw [run_builtin hcal, hmap, e1, e2]
    have : (if x < y then y else x) = (if y ≤ x then x else y) := by split <;> split <;> omega
    simp [builtin, Builtin.max_, Builtin.max2, this]
  · -- min
    rename_i hcal
    have hxs2 : ∃ a b, c.args.toList = [a, b] := by
      obtain ⟨h1, -⟩ := orNf_inv h
      unfold mins at h1
      split at h1
      · rename_i heq
        rcases hq : c.args.toList with _ | ⟨a, _ | ⟨b, _ | ⟨e, r⟩⟩⟩ <;> rw [hq] at heq <;> simp at heq
        exact ⟨a, b, rfl⟩
      · cases h1
    obtain ⟨a, b, hq⟩ := hxs2
    rw [hq] at h
    have hx1 := hargs a (by rw [hq]; simp)
    have hx2 := hargs b (by rw [hq]; simp)
    have hmap : c.args.map ρ = #[ρ a, ρ b] := by apply Array.ext'; simp [hq]
    obtain ⟨k, x, y, e1, e2, rfl, rfl⟩ := min_run h hx1 hx2
    refine Res.still I (v := .int k (if x ≤ y then x else y)) ?_ (by rw [Rep]) rfl rfl
    rw [run_builtin hcal, hmap, e1, e2]
    have : (if y < x then y else x) = (if x ≤ y then x else y) := by split <;> split <;> omega
    simp [builtin, Builtin.min_, Builtin.min2, this]
  · exact (fail_inv h).elim
theorem evOp_sound {tb : Tab} (hT : ∀ t ti, look tb.ty t = some ti → TyOk P t ti) (hE : ∀ t, has tb.eq t = true → EqOk P t) {tm : Fr} (h : Runs (evOp o.op tb call tm) σ d σ') (hx : ∀ x ∈ o.op.operands, Rep G (eval tm x) (ρ x))
    (I : Inv B0 G σ.c L σ.s w) (hB0 : B0 ≤ w.heap.size) (hL : σ'.c ≤ L) : Res P B0 L call G w ρ o d σ σ' := by
  obtain ⟨dst, op, type, pos, after, guard⟩ := o
  cases op
  case move x =>
    have h : Runs (seqD (eval tm x) E.pur) σ d σ' := h
    rw [seqD_eq] at h
    obtain ⟨rfl, rfl⟩ := pur_inv h
    exact Res.still I (by simp [execOp]) (hx x (by simp [Op.operands])) rfl rfl
  case assign x =>
    have h : Runs (seqD (eval tm x) E.pur) σ d σ' := h
    rw [seqD_eq] at h
    obtain ⟨rfl, rfl⟩ := pur_inv h
    exact Res.still I (by simp [execOp]) (hx x (by simp [Op.operands])) rfl rfl
  case pick c a b =>
    have h : Runs (evPick c a b tb call tm) σ d σ' := h
    unfold evPick at h
    have hc := hx c (by simp [Op.operands])
    split at h
    · rename_i x he
      rw [he] at hc
      have hc := rep_bool hc
      simp only [seqD_eq] at h
      rcases cond_inv h with ⟨rfl, h⟩ | ⟨rfl, h⟩
      · obtain ⟨rfl, rfl⟩ := pur_inv h
        exact Res.still I (by simp [execOp, hc, asBool]) (hx a (by simp [Op.operands])) rfl rfl
      · obtain ⟨rfl, rfl⟩ := pur_inv h
        exact Res.still I (by simp [execOp, hc, asBool]) (hx b (by simp [Op.operands])) rfl rfl
    · exact (fail_inv h).elim
  case alloc t =>
    obtain ⟨v, w', G', h1, h2, h3, h4, h5⟩ := op_alloc hT (show Runs (evAlloc t tb call tm) σ d σ' from h) I hB0 hL
    exact Res.move (by simp only [execOp, Sem.run_bind, h1, Result.andThen_ok, Sem.run_pure]) h2 h3 h4 h5
  case box t x =>
    obtain ⟨v, w', G', h1, h2, h3, h4, h5⟩ := op_box (P := P) (show Runs (evBox t x tb call tm) σ d σ' from h) (hx x (by simp [Op.operands])) I hB0 hL
    exact Res.move (by simp only [execOp, Sem.run_bind, h1, Result.andThen_ok, Sem.run_pure]) h2 h3 h4 h5
  case build t ps =>
    have h : Runs (opBuild tb t (evParts tm ps.toList)) σ d σ' := h
    unfold evParts at h
    rw [mapR_eq] at h
    obtain ⟨v, h1, h2, rfl⟩ := op_build (w := w) (vals := ps.map fun (i, x) => (i, ρ x)) hT h (by
      rw [Array.toList_map]
      exact parts_rep _ fun x hm => hx x (by simp only [Op.operands]; exact List.mem_toArray.2 hm))
    exact Res.still I (by simp only [execOp, Sem.run_bind, h1, Result.andThen_ok, Sem.run_pure]) h2 rfl rfl
  case buildSlice t l ps =>
    have h : Runs (opBuildSlice tb t l (evParts tm ps.toList)) σ d σ' := h
    unfold evParts at h
    rw [mapR_eq] at h
    obtain ⟨v, w', G', h1, h2, h3, h4, h5⟩ := op_buildSlice (vals := ps.map fun (i, x) => (i, ρ x)) hT h (by
      rw [Array.toList_map]
      exact parts_rep _ fun x hm => hx x (by simp only [Op.operands]; exact List.mem_toArray.2 hm)) I hB0 hL
    exact Res.move (by simp only [execOp, Sem.run_bind, h1, Result.andThen_ok, Sem.run_pure]) h2 h3 h4 h5
  case load t a =>
    have h : Runs (seqD (eval tm a) (opLoad tb t)) σ d σ' := h
    rw [seqD_eq] at h
    obtain ⟨v, h1, h2, h3, h4⟩ := op_load hT h (hx a (by simp [Op.operands])) I
    exact Res.still I (by simp only [execOp, Sem.run_bind, h1, Result.andThen_ok, Sem.run_pure]) h2 h3 h4
  case store t a x =>
    have h : Runs (seqD (eval tm a) fun a => seqD (eval tm x) (opStore tb t a)) σ d σ' := h
    rw [seqD_eq, seqD_eq] at h
    obtain ⟨w', h1, rfl, h3, h4⟩ := op_store hT h (hx a (by simp [Op.operands])) (hx x (by simp [Op.operands])) I
    refine .inl ⟨undef, w', G, .inr ⟨rfl, ?_⟩, ?_, .refl G, h3, h4⟩
    · simp only [execOp, Sem.run_bind, h1, Result.andThen_ok, Sem.run_pure]
    · rw [Rep]; exact ⟨[], rfl, Reps.nil⟩
  case nilCheck x =>
    have h : Runs (evNil x tb call tm) σ d σ' := h
    unfold evNil at h
    have hc := hx x (by simp [Op.operands])
    split at h
    · rename_i n e o k he
      obtain ⟨rfl, rfl⟩ := pur_inv h
      rw [he] at hc
      have hc' := hc
      rw [Rep] at hc'
      obtain ⟨B, -, hv, -⟩ := hc'
      exact Res.still I (v := ρ x) (by simp [execOp, hv]) hc rfl rfl
    · exact (fail_inv h).elim
  case binOp op t x y u =>
    have h : Runs (seqD (eval tm x) fun x => seqD (eval tm y) fun y => orNf (bin tb op t x y)) σ d σ' := h
    rw [seqD_eq, seqD_eq] at h
    obtain ⟨h1, rfl⟩ := orNf_inv h
    obtain ⟨v, h2, h3⟩ := op_bin (w := w) (x := x) (y := y) hT hE h1 (hx x (by simp [Op.operands])) (hx y (by simp [Op.operands]))
    refine Res.still I (v := v) ?_ h3 rfl rfl
    show ((do let r ← (do eqGuard op t x y (ρ x) (ρ y); binOp op t (ρ x) (ρ y) : Sem Value); pure (Next.value r) : Sem Next)).run P w = _
    rw [Sem.run_bind, h2]
    rfl
  case unOp op t x =>
    obtain ⟨v, h1, h2, rfl⟩ := op_not (w := w) (P := P) (show Runs (evUn op t x tb call tm) σ d σ' from h) (hx x (by simp [Op.operands]))
    exact Res.still I (by simp only [execOp, Sem.run_bind, h1, Result.andThen_ok, Sem.run_pure]) h2 rfl rfl
  case convert s t x =>
    have h : Runs (seqD (eval tm x) fun x => opConvert tb s t x) σ d σ' := h
    rw [seqD_eq] at h
    obtain ⟨v, h1, h2, h3, h4⟩ := op_convert hT h (hx x (by simp [Op.operands])) I
    exact Res.still I (by simp only [execOp, Sem.run_bind, h1, Result.andThen_ok, Sem.run_pure]) h2 h3 h4
  case makeFunc f first cap =>
    have h : Runs (evMakeFunc f first cap tb call tm) σ d σ' := h
    unfold evMakeFunc at h
    split at h
    · rename_i g _
      rw [evals_eq, evals_eq] at h
      obtain ⟨rfl, rfl⟩ := pur_inv h
      refine Res.still I (v := .func (.func g) (first.map ρ) (cap.map ρ)) (by simp [execOp, Instr.makeFunc]) ?_ rfl rfl
      rw [Rep]
      refine ⟨first.toList.map ρ, cap.toList.map ρ, by congr 1 <;> (apply Array.ext'; simp), evals_rep _ fun x hm => hx x ?_, evals_rep _ fun x hm => hx x ?_⟩
      · simp only [Op.operands, Array.mem_append]
        exact .inl (Array.mem_toList_iff.1 hm)
      · simp only [Op.operands, Array.mem_append]
        exact .inr (Array.mem_toList_iff.1 hm)
    · exact (fail_inv h).elim
  case makeMap t r =>
    have hr := opt_rep (G := G) (tm := tm) (ρ := ρ) r fun y hy => hx y (by simp [Op.operands]; simpa using hy)
    obtain ⟨v, w', G', h1, h2, h3, h4, h5⟩ := op_makeMap hT (show Runs (evMakeMapOf t r tb call tm) σ d σ' from h) hr I hB0 hL
    exact Res.move (by simp only [execOp, Sem.run_bind, h1, Result.andThen_ok, Sem.run_pure]) h2 h3 h4 h5
  case lookup t x i ok =>
    have h : Runs (seqD (eval tm x) fun x => seqD (eval tm i) fun i => opLookup tb t ok x i) σ d σ' := h
    rw [seqD_eq, seqD_eq] at h
    obtain ⟨v, h1, h2, h3, h4⟩ := op_lookup hT hE h (hx x (by simp [Op.operands])) (hx i (by simp [Op.operands])) I
    exact Res.still I (by simp only [execOp, Sem.run_bind, h1, Result.andThen_ok, Sem.run_pure]) h2 h3 h4
  case mapUpdate t m k x =>
    have h : Runs (seqD (eval tm m) fun m => seqD (eval tm k) fun k => seqD (eval tm x) fun x => opMapUpdate tb t m k x) σ d σ' := h
    rw [seqD_eq, seqD_eq, seqD_eq] at h
    obtain ⟨w', h1, rfl, h3, h4⟩ := op_mapUpdate hT hE h (hx m (by simp [Op.operands])) (hx k (by simp [Op.operands])) (hx x (by simp [Op.operands])) I
    refine .inl ⟨undef, w', G, .inr ⟨rfl, ?_⟩, ?_, .refl G, h3, h4⟩
    · simp only [execOp, Sem.run_bind, h1, Result.andThen_ok, Sem.run_pure]
    · rw [Rep]; exact ⟨[], rfl, Reps.nil⟩
  case range t x =>
    have h : Runs (seqD (eval tm x) fun x => opRange tb t x) σ d σ' := h
    rw [seqD_eq] at h
    obtain ⟨v, w', G', h1, h2, h3, h4, h5⟩ := op_range hT h (hx x (by simp [Op.operands])) I hB0 hL
    exact Res.move (by simp only [execOp, Sem.run_bind, h1, Result.andThen_ok, Sem.run_pure]) h2 h3 h4 h5
  case next it str =>
    have h : Runs (Bool.rec (seqD (eval tm it) opNext) fail str) σ d σ' := h
    cases str with
    | true => exact (fail_inv h).elim
    | false =>
      have h : Runs (seqD (eval tm it) opNext) σ d σ' := h
      rw [seqD_eq] at h
      obtain ⟨v, w', h1, h2, h4, h5⟩ := op_next (P := P) (ty := type) h (hx it (by simp [Op.operands])) I
      exact Res.move (by simp only [execOp, Sem.run_bind, h1, Result.andThen_ok, Sem.run_pure]) h2 (.refl G) h4 h5
  case entry it =>
    have h : Runs (seqD (eval tm it) opEntry) σ d σ' := h
    rw [seqD_eq] at h
    obtain ⟨v, h1, h2, h3, h4⟩ := op_entry (P := P) h (hx it (by simp [Op.operands])) I
    exact Res.still I (by simp only [execOp, Sem.run_bind, h1, Result.andThen_ok, Sem.run_pure]) h2 h3 h4
  case makeSlice t l c =>
    have h : Runs (seqD (eval tm l) fun l => seqD (eval tm c) fun c => opMakeSlice tb t l c) σ d σ' := h
    rw [seqD_eq, seqD_eq] at h
    obtain ⟨v, w', G', h1, h2, h3, h4, h5⟩ := op_makeSlice hT h (hx l (by simp [Op.operands])) (hx c (by simp [Op.operands])) I hB0 hL
    exact Res.move (by simp only [execOp, Sem.run_bind, h1, Result.andThen_ok, Sem.run_pure]) h2 h3 h4 h5
  case slice t x lo hi mx =>
    have h : Runs (seqD (eval tm x) fun x => opSlice tb t x (lo.map (eval tm)) (hi.map (eval tm)) (mx.map (eval tm))) σ d σ' := h
    rw [seqD_eq] at h
    have hlo := opt_rep (G := G) (tm := tm) (ρ := ρ) lo fun y hy => hx y (by simp [Op.operands]; simp at hy; simp [hy])
    have hhi := opt_rep (G := G) (tm := tm) (ρ := ρ) hi fun y hy => hx y (by simp [Op.operands]; simp at hy; simp [hy])
    have hxx := hx x (by simp [Op.operands])
    cases mx with
    | none =>
      obtain ⟨v, h1, h2, rfl⟩ := op_slice (w := w) hT h hxx hlo hhi
      exact Res.still I (by simp only [execOp, Option.map_none, Sem.run_bind, h1, Result.andThen_ok, Sem.run_pure]) h2 rfl rfl
    | some m =>
      obtain ⟨v, h1, h2, rfl⟩ := op_slice3 (w := w) hT h hxx hlo hhi (hx m (by simp [Op.operands]))
      exact Res.still I (by simp only [execOp, Option.map_some, Sem.run_bind, h1, Result.andThen_ok, Sem.run_pure]) h2 rfl rfl
  case fieldAddr t x f =>
    have h : Runs (seqD (eval tm x) fun x => opFieldAddr tb t x f) σ d σ' := h
    rw [seqD_eq] at h
    obtain ⟨v, h1, h2, rfl⟩ := op_fieldAddr (w := w) hT h (hx x (by simp [Op.operands]))
    exact Res.still I (by simp only [execOp, Sem.run_bind, h1, Result.andThen_ok, Sem.run_pure]) h2 rfl rfl
  case field t x f =>
    have h : Runs (seqD (eval tm x) fun x => opField tb t x f) σ d σ' := h
    rw [seqD_eq] at h
    obtain ⟨v, h1, h2, rfl⟩ := op_field (w := w) hT h (hx x (by simp [Op.operands]))
    exact Res.still I (by simp only [execOp, Sem.run_bind, h1, Result.andThen_ok, Sem.run_pure]) h2 rfl rfl
  case indexAddr t x i =>
    have h : Runs (seqD (eval tm x) fun x => seqD (eval tm i) fun i => opIndexAddr tb t x i) σ d σ' := h
    rw [seqD_eq, seqD_eq] at h
    obtain ⟨v, h1, h2, rfl⟩ := op_indexAddr (w := w) hT h (hx x (by simp [Op.operands])) (hx i (by simp [Op.operands]))
    exact Res.still I (by simp only [execOp, Sem.run_bind, h1, Result.andThen_ok, Sem.run_pure]) h2 rfl rfl
  case index t x i =>
    have h : Runs (seqD (eval tm x) fun x => seqD (eval tm i) fun i => opIndex tb t x i) σ d σ' := h
    rw [seqD_eq, seqD_eq] at h
    obtain ⟨v, h1, h2, rfl⟩ := op_index (w := w) hT h (hx x (by simp [Op.operands])) (hx i (by simp [Op.operands]))
    exact Res.still I (by simp only [execOp, Sem.run_bind, h1, Result.andThen_ok, Sem.run_pure]) h2 rfl rfl
  case extract x i =>
    obtain ⟨v, h1, h2, rfl⟩ := op_extract (w := w) (P := P) (show Runs (evExtract x i tb call tm) σ d σ' from h) (hx x (by simp [Op.operands]))
    exact Res.still I (by simp only [execOp, Sem.run_bind, h1, Result.andThen_ok, Sem.run_pure]) h2 rfl rfl
  case call c => exact evCall_sound hT hE (show Runs (evCall tb call tm c) σ d σ' from h) (fun x hm => hx x hm) I hB0 hL
  all_goals exact (fail_inv (show Runs (fail : M DV) σ d σ' from h)).elim
end Go.E
end
