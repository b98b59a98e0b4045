/- The evaluator: tables, functions whose answers are known, sorted keys. -/
import Derived.Test.YtmmjnbpoilicjaaGreatBE4
import Derived.KernelRfl
import Derived.Conc.MarkLaws
import Derived.RangeFuncGives
import Derived.Sort.EncStr
set_option linter.unusedVariables false
set_option linter.unusedSimpArgs false
section
namespace Go.E
open Go
variable {P : Program}
def sameZ : Value → Value → Bool
  | .int k n, .int k' n' => decide (k = k') && decide (n = n')
  | .bool a, .bool b => decide (a = b)
  | .string a, .string b => decide (a.size = 0) && decide (b.size = 0)
  | .slice none 0 0, .slice none 0 0 => true
  | .map none, .map none => true
  | .pointer none, .pointer none => true
  | .nilFunc, .nilFunc => true
  | .nilIface, .nilIface => true
  | _, _ => false
theorem sameZ_eq {a b : Value} (h : sameZ a b = true) : a = b := by
  unfold sameZ at h
  split at h <;> first | rfl | (cases h; done) | skip
  · simp only [Bool.and_eq_true, decide_eq_true_eq] at h
    rw [h.1, h.2]
  · simp only [decide_eq_true_eq] at h
    rw [h]
  · rename_i a b
    simp only [Bool.and_eq_true, decide_eq_true_eq] at h
    obtain ⟨⟨a⟩⟩ := a
    obtain ⟨⟨b⟩⟩ := b
    have h1 : a.length = 0 := h.1
    have h2 : b.length = 0 := h.2
    rw [List.eq_nil_of_length_eq_zero h1, List.eq_nil_of_length_eq_zero h2]
def sameZs : List Value → List Value → Bool
  | [], [] => true
  | a :: r, b :: t => sameZ a b && sameZs r t
  | _, _ => false
theorem sameZs_eq : ∀ {l m : List Value}, sameZs l m = true → l = m
  | [], [], _ => rfl
  | [], _ :: _, h => by cases h
  | _ :: _, [], h => by cases h
  | a :: r, b :: t, h => by
    unfold sameZs at h
    rw [Bool.and_eq_true] at h
    rw [sameZ_eq h.1, sameZs_eq h.2]
def isAggV : Value → Bool
  | .agg _ => true
  | _ => false
def tdCheck : TypeDesc → TD → Bool
  | .int k, .int k' => decide (k = k')
  | .bool, .bool => true
  | .string, .str => true
  | .slice e, .slice e' => decide (e = e')
  | .struct fields, .struct fs => decide (fields.toList.map (fun f => (f.offset, f.type)) = fs)
  | .array n e, .arr n' e' => decide (n = n') && decide (e = e')
  | .map k e, .map k' e' => decide (k = k') && decide (e = e')
  | d, .other => !d.isRow
  | _, _ => false
theorem tdCheck_ok {d : TypeDesc} {td : TD} (h : tdCheck d td = true) : TdOk d td ∧ d.isRow = isAgg td := by
  by_cases ho : td = .other
  · subst ho
    have h : (!d.isRow) = true := by cases d <;> exact h
    refine ⟨trivial, ?_⟩
    rw [Bool.not_eq_true'] at h
    exact h
  cases d <;> cases td <;> simp only [tdCheck] at h <;> first | (cases h; done) | exact absurd rfl ho | skip
  case int.int => simp only [decide_eq_true_eq] at h; subst h; exact ⟨rfl, rfl⟩
  case slice.slice => simp only [decide_eq_true_eq] at h; subst h; exact ⟨rfl, rfl⟩
  case struct.struct fields fs => simp only [decide_eq_true_eq] at h; exact ⟨⟨fields, rfl, h⟩, rfl⟩
  case array.arr => simp only [Bool.and_eq_true, decide_eq_true_eq] at h; obtain ⟨rfl, rfl⟩ := h; exact ⟨rfl, rfl⟩
  case map.map => simp only [Bool.and_eq_true, decide_eq_true_eq] at h; obtain ⟨rfl, rfl⟩ := h; exact ⟨rfl, rfl⟩
  case bool.bool => exact ⟨rfl, rfl⟩
  case string.str => exact ⟨rfl, rfl⟩
def partsCheck (P : Program) : TD → Bool
  | .struct fs => fs.all fun p => (P.info? p.2).isSome
  | _ => true
def tyCheck (P : Program) (t : TypeId) (ti : TI) : Bool :=
  (match P.underlying t with | some d => tdCheck d ti.td | none => false) &&
  (match P.info? t with
    | some i => decide (i.size = ti.size) && decide (i.bytes = ti.bytes) && (match i.zero with | some z => sameZs z.cells.toList ti.zero && decide (isAggV z = isAgg ti.td) | none => false)
    | none => false) && partsCheck P ti.td
theorem tyCheck_ok {t : TypeId} {ti : TI} (h : tyCheck P t ti = true) : TyOk P t ti := by
  unfold tyCheck at h
  simp only [Bool.and_eq_true] at h
  obtain ⟨⟨h1, h2⟩, h3⟩ := h
  cases hu : P.underlying t with
  | none => rw [hu] at h1; cases h1
  | some d =>
    rw [hu] at h1
    cases hi : P.info? t with
    | none => rw [hi] at h2; cases h2
    | some i =>
      rw [hi] at h2
      simp only [Bool.and_eq_true, decide_eq_true_eq] at h2
      obtain ⟨⟨h4, h5⟩, h6⟩ := h2
      cases hz : i.zero with
      | none => rw [hz] at h6; cases h6
      | some z =>
        rw [hz] at h6
        simp only [Bool.and_eq_true, decide_eq_true_eq] at h6
        have htd := tdCheck_ok h1
        refine ⟨⟨d, hu, htd.1, htd.2⟩, ⟨i, z, hi, h4, h5, hz, sameZs_eq h6.1⟩, fun i' z' hi' hz' => ?_, fun fs hfs p hp => ?_⟩
        · rw [hi] at hi'; cases hi'
          rw [hz] at hz'; cases hz'
          rw [← h6.2]
          cases z <;> rfl
        · rw [hfs] at h3
          have := List.all_eq_true.1 h3 p hp
          exact Option.isSome_iff_exists.1 this
def tysCheck (P : Program) : Tr TI → Nat → Nat → Bool
  | .e, _, _ => true
  | .n v l r, a, b => (match v with | some ti => tyCheck P a ti | none => true) && tysCheck P l (a + b) (2 * b) && tysCheck P r (a + 2 * b) (2 * b)
theorem look_n {α : Type} (v : Option α) (l r : Tr α) (m : Nat) : look (.n v l r) (m + 1) = if m % 2 = 0 then look l (m / 2) else look r (m / 2) := rec_ite (m % 2) _ _
theorem tysCheck_at : ∀ {t : Tr TI} {a b : Nat}, tysCheck P t a b = true → ∀ k ti, look t k = some ti → TyOk P (a + b * k) ti
  | .e, a, b, _, k, ti, h => by cases h
  | .n v l r, a, b, hc, k, ti, h => by
    unfold tysCheck at hc
    simp only [Bool.and_eq_true] at hc
    cases k with
    | zero =>
      have h : v = some ti := h
      subst h
      exact tyCheck_ok hc.1.1
    | succ m =>
      rw [look_n] at h
      split at h
      · rename_i hm
        have := tysCheck_at hc.1.2 _ ti h
        have e : a + b + 2 * b * (m / 2) = a + b * (m + 1) := by
          have h2 : b * (m + 1) = b * m + b := by rw [Nat.mul_add, Nat.mul_one]
          have h3 : 2 * b * (m / 2) = b * m := by rw [Nat.mul_comm 2 b, Nat.mul_assoc]; congr 1; omega
          omega
        rwa [e] at this
      · rename_i hm
        have := tysCheck_at hc.2 _ ti h
        have e : a + 2 * b + 2 * b * (m / 2) = a + b * (m + 1) := by
          have h2 : b * (m + 1) = b * m + b := by rw [Nat.mul_add, Nat.mul_one]
          have h3 : 2 * b * (m / 2) = b * (m - 1) := by rw [Nat.mul_comm 2 b, Nat.mul_assoc]; congr 1; omega
          have h4 : b * m = b * (m - 1) + b := by
            have : m = m - 1 + 1 := by omega
            conv => lhs; rw [this, Nat.mul_add, Nat.mul_one]
          omega
        rwa [e] at this
theorem tysCheck_ok {l : Tr TI} (h : tysCheck P l 0 1 = true) : ∀ t ti, look l t = some ti → TyOk P t ti := fun t ti hl => by
  have := tysCheck_at h t ti hl
  rwa [Nat.zero_add, Nat.one_mul] at this
def eqCheck (P : Program) (t : TypeId) : Bool :=
  !P.stoodInHeld t && !P.eqGuardType P.depth t && (match P.underlying t with | some (.struct fields) => fields.toList.all fun f => decide (f.name ≠ "_") | _ => false)
theorem eqCheck_ok {t : TypeId} (h : eqCheck P t = true) : EqOk P t := by
  unfold eqCheck at h
  simp only [Bool.and_eq_true, Bool.not_eq_true'] at h
  obtain ⟨⟨h1, h2⟩, h3⟩ := h
  split at h3
  · rename_i fields hu
    refine ⟨⟨fields, hu⟩, h1, h2, fun fields' hu' f hf => ?_⟩
    rw [hu] at hu'; cases hu'
    have := List.all_eq_true.1 h3 f hf
    simpa using this
  · cases h3
theorem eqsCheck_ok {l : List Nat} (h : (l.all fun t => eqCheck P t) = true) : ∀ t, has l t = true → EqOk P t := fun t ht => eqCheck_ok (List.all_eq_true.1 h _ ((has_iff _ _).1 ht))
def FnsOk (P : Program) : Tr (Nat × Func) → Nat → Nat → Prop
  | .e, _, _ => True
  | .n none l r, a, b => FnsOk P l (a + b) (2 * b) ∧ FnsOk P r (a + 2 * b) (2 * b)
  | .n (some p) l r, a, b => FnOk P a p.2 ∧ FnsOk P l (a + b) (2 * b) ∧ FnsOk P r (a + 2 * b) (2 * b)
theorem FnsOk.at : ∀ {t : Tr (Nat × Func)} {a b : Nat}, FnsOk P t a b → ∀ k V fn, look t k = some (V, fn) → FnOk P (a + b * k) fn
  | .e, a, b, _, k, V, fn, h => by cases h
  | .n v l r, a, b, hc, k, V, fn, h => by
    have hlr : FnsOk P l (a + b) (2 * b) ∧ FnsOk P r (a + 2 * b) (2 * b) := by
      cases v with
      | none => exact hc
      | some p => exact hc.2
    cases k with
    | zero =>
      have h : v = some (V, fn) := h
      subst h
      exact hc.1
    | succ m =>
      have h2 : b * (m + 1) = b * m + b := by rw [Nat.mul_add, Nat.mul_one]
      rw [look_n] at h
      split at h
      · rename_i hm
        have := FnsOk.at hlr.1 _ V fn h
        have h3 : 2 * b * (m / 2) = b * m := by rw [Nat.mul_comm 2 b, Nat.mul_assoc]; congr 1; omega
        rwa [show a + b + 2 * b * (m / 2) = a + b * (m + 1) by omega] at this
      · rename_i hm
        have := FnsOk.at hlr.2 _ V fn h
        have h3 : 2 * b * (m / 2) = b * (m - 1) := by rw [Nat.mul_comm 2 b, Nat.mul_assoc]; congr 1; omega
        have h4 : b * m = b * (m - 1) + b := by
          have : m = m - 1 + 1 := by omega
          conv => lhs; rw [this, Nat.mul_add, Nat.mul_one]
        rwa [show a + 2 * b + 2 * b * (m / 2) = a + b * (m + 1) by omega] at this
theorem FnsOk.all {t : Tr (Nat × Func)} (h : FnsOk P t 0 1) : ∀ f V fn, look t f = some (V, fn) → FnOk P f fn := fun f V fn hl => by
  have := h.at f V fn hl
  rwa [Nat.zero_add, Nat.one_mul] at this
end Go.E
end
section
namespace Go.E
open Go
noncomputable def idxB (c : Nat) (l : List Nat) : Nat → Option Nat := List.rec (fun _ => none) (fun b _ ih i => Bool.rec (ih (Nat.succ i)) (some i) (Nat.beq b c)) l
noncomputable def pIndexByte : List DV → M DV := fun as => match as with
  | [.str l, .int .u8 (.ofNat c)] => bif Nat.ble c 255 then Option.rec (pur (.int .i64 (.negSucc 0))) (fun i => seqN i fun i => pur (.int .i64 (.ofNat i))) (idxB c l 0) else fail
  | _ => fail
noncomputable def memN (x : Nat) (l : List Nat) : Bool := List.rec false (fun y _ ih => Bool.rec ih true (Nat.beq x y)) l
noncomputable def nodN (l : List Nat) : Bool := List.rec true (fun x r ih => Bool.rec ih false (memN x r)) l
noncomputable def keysIn (b e : Nat) (k : List DV → M DV) : M DV := bind (loadC b e 0 1) fun cs => match cs with
  | [.map n] => bind (rd n) fun r => match r with
    | .ents _ ks _ bs => bif nodN bs then k ks else fail
    | _ => fail
  | _ => fail
noncomputable def allInts (ks : List DV) : Option (List Int) := List.rec (some []) (fun d _ ih => match d, ih with
  | .int .i64 n, some r => some (n :: r)
  | _, _ => none) ks
noncomputable def insZ (x : Int) (l : List Int) : List Int := List.rec [x] (fun y r ih => Bool.rec (y :: ih) (x :: y :: r) (leZ x y)) l
noncomputable def sortZ (l : List Int) : List Int := List.rec [] (fun x _ ih => insZ x ih) l
noncomputable def someInts (ks : List DV) (k : List Int → M DV) : M DV := bif Nat.ble (lenR ks) 100000 then Option.rec fail (fun l => k l) (allInts ks) else fail
noncomputable def rowInts (l : List Int) : M DV := match l with
  | [] => pur nilS
  | x :: r => mapR (DV.int .i64) (x :: r) fun cs => seqLD cs fun cs => bind (newRow cs) fun n => seqN (lenR cs) fun len => pur (.sl n 0 0 1 len none)
noncomputable def pSortedInt (g : Nat) : List DV → M DV := fun as => match as with
  | [.fn f [] [.ptr b e 0 1]] => bif Nat.beq f g then keysIn b e fun ks => someInts ks fun l => rowInts (sortZ l) else fail
  | _ => fail
noncomputable def allSpots (ks : List DV) : Option (List (Int × Int)) := List.rec (some []) (fun d _ ih => match d, ih with
  | .agg [.int .i64 a, .int .i64 b], some r => some ((a, b) :: r)
  | _, _ => none) ks
noncomputable def leS (x y : Int × Int) : Bool := Bool.rec (leZ x.1 y.1) (leZ x.2 y.2) (eqZ x.1 y.1)
noncomputable def insS (x : Int × Int) (l : List (Int × Int)) : List (Int × Int) := List.rec [x] (fun y r ih => Bool.rec (y :: ih) (x :: y :: r) (leS x y)) l
noncomputable def sortS (l : List (Int × Int)) : List (Int × Int) := List.rec [] (fun x _ ih => insS x ih) l
noncomputable def flatS (l : List (Int × Int)) : List DV := List.rec [] (fun x _ ih => .int .i64 x.1 :: .int .i64 x.2 :: ih) l
noncomputable def someSpots (ks : List DV) (k : List (Int × Int) → M DV) : M DV := bif Nat.ble (lenR ks) 100000 then Option.rec fail (fun l => k l) (allSpots ks) else fail
noncomputable def rowSpots (l : List (Int × Int)) : M DV := match l with
  | [] => pur nilS
  | x :: r => seqLD (flatS (x :: r)) fun cs => bind (newRow cs) fun n => seqN (lenR (x :: r)) fun len => pur (.sl n 0 0 2 len none)
noncomputable def pSortedSpot (g c : Nat) : List DV → M DV := fun as => match as with
  | [.fn f [] [.ptr b e 0 1], .fn h [] []] => bif Nat.beq f g && Nat.beq h c then keysIn b e fun ks => someSpots ks fun l => rowSpots (sortS l) else fail
  | _ => fail
noncomputable def isAlt (cs : List DV) : Bool := match cs with
  | [.int .i64 _, .int .i64 _, .bool _, .str _, .int .i64 _] => true
  | _ => false
noncomputable def pSortedOne (g c : Nat) : List DV → M DV := fun as => match as with
  | [.fn f [] [.ptr b e 0 1], .fn h [] []] => bif Nat.beq f g && Nat.beq h c then bind (loadC b e 0 1) fun cs => match cs with
      | [.sl n ep i 5 1 _] => bind (loadC n ep (Nat.mul i 5) 5) fun cs => bif isAlt cs then bind (newRow cs) fun n => pur (.sl n 0 0 5 1 none) else fail
      | _ => fail
    else fail
  | _ => fail
end Go.E
end
section
namespace Go.E
open Go Go.RowKit
variable {P : Program} {B0 L : Nat} {G : Gh} {w w' : World} {c : Nat} {s : Tm}
theorem Inv.grown (I : Inv B0 G c L s w) (hb : Below w.heap.size w w') : Inv B0 G c L s w' := by
  have hold : ∀ n e B, G n e = some B → w'.heap[B.b]? = w.heap[B.b]? := fun n e B hB => hb.block _ (I.known n e B hB).2.1
  exact ⟨I.full, I.fresh, fun n e m fz cs h => (I.row n e m fz cs h).old (.refl G) fun e' B hB => hold n e' B hB, fun n => (I.obj n).mono (.refl G) fun B hB => hold n 0 B hB, fun n e B hB => by
    obtain ⟨h1, h2, h3⟩ := I.known n e B hB
    exact ⟨h1, Nat.lt_of_lt_of_le h2 hb.size, h3⟩, I.apart⟩
theorem Inv.adoptObj (I : Inv B0 G c L s w) (hb : Below w.heap.size w w') (hB0 : B0 ≤ w.heap.size) (hL : c < L) (hc : c + 1 < 2 ^ depth) (B : Blk) (h1 : w.heap.size ≤ B.b) (h2 : B.b < w'.heap.size) (d : DV) (hh : Held d 0)
    (hr : G.le (G.put c 0 B) → ∀ e m fz cs, d = .row e m fz cs → RowOk (G.put c 0 B) w' c e m fz cs) (ho : G.le (G.put c 0 B) → ObjOk (G.put c 0 B) w' c d) :
    Inv B0 (G.put c 0 B) (c + 1) L (s.put d c) w' ∧ G.le (G.put c 0 B) := by
  have hnone : ∀ e, G c e = none := fun e => by
    cases h : G c e with
    | none => rfl
    | some B =>
      obtain ⟨-, -, h'⟩ := I.known c e B h
      rw [I.fresh c (Nat.le_refl _) hL] at h'; exact h'.elim
  have hle : G.le (G.put c 0 B) := Gh.le_put (hnone 0)
  have hlt : ∀ n e B, G n e = some B → n ≠ c := fun n e B h hh => by subst hh; rw [hnone] at h; cases h
  have hold : ∀ n e B, G n e = some B → w'.heap[B.b]? = w.heap[B.b]? := fun n e B hB => hb.block _ (I.known n e B hB).2.1
  refine ⟨⟨Tm.put_full _ _ _ _ I.full, fun n hn hnL => ?_, fun n e m fz cs' hn => ?_, fun n => ?_, fun n e B' hB => ?_, fun n e B' n' e' B'' hB hB' hbb => ?_⟩, hle⟩
  · rw [Tm.get_put_ite s I.full _ _ _ hc, if_neg (by omega)]; exact I.fresh n (by omega) hnL
  · rw [Tm.get_put_ite s I.full _ _ _ hc] at hn
    split at hn
    · rename_i hnc
      subst hnc
      exact hr hle e m fz cs' hn
    · exact (I.row n e m fz cs' hn).old hle fun e' B hB => hold n e' B hB
  · rw [Tm.get_put_ite s I.full _ _ _ hc]
    split
    · rename_i hnc
      subst hnc
      exact ho hle
    · exact (I.obj n).mono hle fun B hB => hold n 0 B hB
  · by_cases hh' : n = c ∧ e = 0
    · obtain ⟨rfl, rfl⟩ := hh'
      rw [Gh.put_same] at hB
      cases hB
      refine ⟨by omega, h2, ?_⟩
      rw [Tm.get_put_ite s I.full _ _ _ hc, if_pos rfl]; exact hh
    · rw [Gh.put_ne hh'] at hB
      obtain ⟨g1, g2, g3⟩ := I.known n e B' hB
      refine ⟨g1, Nat.lt_of_lt_of_le g2 hb.size, ?_⟩
      rw [Tm.get_put_ite s I.full _ _ _ hc, if_neg (hlt n e B' hB)]; exact g3
  · by_cases g1 : n = c ∧ e = 0
    · by_cases g2 : n' = c ∧ e' = 0
      · obtain ⟨rfl, rfl⟩ := g1
        obtain ⟨rfl, rfl⟩ := g2
        rw [hB] at hB'
        cases hB'
        exact ⟨rfl, rfl, rfl⟩
      · obtain ⟨rfl, rfl⟩ := g1
        rw [Gh.put_same] at hB
        rw [Gh.put_ne g2] at hB'
        cases hB
        have := (I.known n' e' B'' hB').2.1
        omega
    · by_cases g2 : n' = c ∧ e' = 0
      · obtain ⟨rfl, rfl⟩ := g2
        rw [Gh.put_same] at hB'
        rw [Gh.put_ne g1] at hB
        cases hB'
        have := (I.known n e B' hB).2.1
        omega
      · rw [Gh.put_ne g1] at hB
        rw [Gh.put_ne g2] at hB'
        exact I.apart n e B' n' e' B'' hB hB' hbb
def plainD : DV → Bool
  | .int _ _ => true
  | .bool _ => true
  | .str _ => true
  | _ => false
theorem rep_plain {G' : Gh} {d : DV} {v : Value} (hp : plainD d = true) (h : Rep G d v) : Rep G' d v := by
  cases d <;> simp only [plainD] at hp <;> first | (cases hp; done) | (rw [Rep] at h ⊢; exact h)
noncomputable def sameC (a b : DV) : Bool :=
  match a, b with
  | .int k x, .int k' y => bif eqK k k' then eqZ x y else false
  | .bool x, .bool y => Bool.rec (Bool.rec true false y) y x
  | .str l, .str m => eqLN l m
  | _, _ => false
noncomputable def sameCs (a : List DV) : List DV → Bool := List.rec (fun b => List.rec true (fun _ _ _ => false) b) (fun x _ ih b => List.rec false (fun y r _ => Bool.rec false (ih r) (sameC x y)) b) a
theorem sameC_eq {a b : DV} (h : sameC a b = true) : a = b ∧ plainD a = true := by
  unfold sameC at h
  split at h
  · rename_i k x k' y
    cases he : eqK k k' with
    | false => rw [he] at h; cases h
    | true =>
      rw [he] at h
      obtain rfl := eqK_eq he
      replace h : eqZ x y = true := h
      rw [eqZ_eq, beq_iff_eq] at h
      subst h
      exact ⟨rfl, rfl⟩
  · rename_i x y
    cases x <;> cases y <;> first | exact ⟨rfl, rfl⟩ | cases h
  · rename_i l m
    rw [eqLN_eq, decide_eq_true_eq] at h
    subst h
    exact ⟨rfl, rfl⟩
  · cases h
theorem sameCs_eq : ∀ {a b : List DV}, sameCs a b = true → a = b ∧ ∀ d ∈ a, plainD d = true
  | [], [], _ => ⟨rfl, fun d h => by cases h⟩
  | [], _ :: _, h => by cases h
  | _ :: _, [], h => by cases h
  | x :: r, y :: t, h => by
    replace h : (Bool.rec false (sameCs r t) (sameC x y) : Bool) = true := h
    cases hs : sameC x y with
    | false => rw [hs] at h; cases h
    | true =>
      rw [hs] at h
      obtain ⟨rfl, h1⟩ := sameC_eq hs
      obtain ⟨rfl, h2⟩ := sameCs_eq (a := r) (b := t) h
      exact ⟨rfl, fun d hd => by rcases List.mem_cons.1 hd with rfl | hd; · exact h1
                                 · exact h2 d hd⟩
noncomputable def pFirst (i st : Nat) (note : List Nat) (len : Nat) (cs : List DV) : List DV → M DV := fun as => match as with
  | [.int .i64 (.ofNat j)] => bif Nat.beq i j then bind (newRow cs) fun n => pur (.agg [.int .i64 (.ofNat st), nilS, nilS, .str note, .sl n 0 0 6 len none]) else fail
  | _ => fail
noncomputable def firstIs (st : Nat) (note : List Nat) (len : Nat) (cs : List DV) (a : Ans) : Bool :=
  Option.rec false (fun p => Prod.rec (fun d σ => match d with
    | .agg [.int .i64 (.ofNat st'), .lit (.slice none 0 0), .lit (.slice none 0 0), .str note', .sl n e 0 6 len' none] =>
      Nat.beq st st' && eqLN note' note && Nat.beq len len' && (match σ.s.get n with
        | .row e' _ _ cs' => Nat.beq e e' && sameCs cs' cs
        | _ => false)
    | _ => false) p) a
theorem prim_first {tb : Tab} (hP : TabOk P tb) {f fuel n i st len : Nat} {note : List Nat} {cs : List DV} (hp : look tb.prim f = none) (h : firstIs st note len cs (run tb fuel (n + 1) f [.int .i64 (.ofNat i)]) = true) : PrimOk P f (pFirst i st note len cs) := by
  refine ⟨fun args => ?_, fun B0 L G w ds vs σ d σ' hrun hr hg I hB0 hL => ?_⟩
  · unfold pFirst
    split
    · exact Ok.cond (Ok.bind (ok_newRow _) fun _ => Ok.pur _) Ok.fail
    · exact Ok.fail
  · unfold pFirst at hrun
    split at hrun
    · rename_i j
      obtain ⟨hb, hrun2⟩ := cond_fail_inv hrun
      clear hrun
      obtain rfl := Nat.eq_of_beq_eq_true hb
      obtain ⟨nn, σ1, h1, h2⟩ := hrun2.split (ok_newRow _)
      obtain ⟨hone, rfl, hd, hc1, hs1⟩ := newRow_inv h1
      obtain ⟨rfl, rfl⟩ := pur_inv h2
      obtain ⟨v0, r0, rfl, hv0, hr0⟩ := Reps.cons_iff.1 hr
      rw [Reps.nil_iff] at hr0
      subst hr0
      cases ha : run tb fuel (n + 1) f [.int .i64 (.ofNat i)] with
      | none => rw [ha] at h; cases h
      | some p =>
        obtain ⟨d1, τ⟩ := p
        rw [ha] at h
        replace h : (match (generalizing := false) d1 with
          | .agg [.int .i64 (.ofNat st'), .lit (.slice none 0 0), .lit (.slice none 0 0), .str note', .sl n e 0 6 len' none] =>
            Nat.beq st st' && eqLN note' note && Nat.beq len len' && (match (generalizing := false) τ.s.get n with
              | .row e' _ _ cs' => Nat.beq e e' && sameCs cs' cs
              | _ => false)
          | _ => false) = true := h
        split at h
        · rename_i st' note' n1 e1 len'
          simp only [Bool.and_eq_true] at h
          obtain ⟨⟨⟨e1', e2'⟩, e3'⟩, h4⟩ := h
          obtain rfl := Nat.eq_of_beq_eq_true e1'
          obtain rfl := Nat.eq_of_beq_eq_true e3'
          rw [eqLN_eq, decide_eq_true_eq] at e2'
          subst e2'
          split at h4
          · rename_i e2 m fz cs' hrow
            rw [Bool.and_eq_true] at h4
            obtain rfl := Nat.eq_of_beq_eq_true h4.1
            obtain ⟨rfl, hpl⟩ := sameCs_eq h4.2
            obtain ⟨q1, q2⟩ := run_ok hP hp ha (vs := [v0]) (Reps.cons (rep_plain rfl hv0) Reps.nil) w
            refine .inl ⟨q1, q2.mono fun ee w' he => ?_⟩
            obtain ⟨v, G1, rfl, hv, I1, hbel⟩ := he
            rw [Rep] at hv
            obtain ⟨us, rfl, hus⟩ := hv
            obtain ⟨u1, r1, rfl, a1, b1⟩ := Reps.cons_iff.1 hus
            obtain ⟨u2, r2, rfl, a2, b2⟩ := Reps.cons_iff.1 b1
            obtain ⟨u3, r3, rfl, a3, b3⟩ := Reps.cons_iff.1 b2
            obtain ⟨u4, r4, rfl, a4, b4⟩ := Reps.cons_iff.1 b3
            obtain ⟨u5, r5, rfl, a5, b5⟩ := Reps.cons_iff.1 b4
            rw [Reps.nil_iff] at b5
            subst b5
            have a5' := a5
            rw [Rep] at a5'
            obtain ⟨B, aa, cc, hB, rfl, z1, z2, z3, z4, z5, z6, z7, z8⟩ := a5'
            have hk := I1.known n1 e1 B hB
            obtain ⟨rm, rfz, rr⟩ := I1.row n1 e1 m fz cs' hrow
            obtain ⟨B', hB', y1, y2, y3, y4, y5, y6⟩ := rr e1 rm (Nat.le_refl _)
            rw [hB] at hB'; cases hB'
            obtain ⟨hI, hle⟩ := I.adoptObj hbel hB0 (by omega) hd B hk.1 hk.2.1 (.row 0 0 0 cs') (Nat.le_refl _) (fun hle e m fz cs hcs => by
              cases hcs
              refine ⟨Nat.le_refl _, Nat.zero_le _, fun e' g1 g2 => ?_⟩
              obtain rfl : e' = 0 := by omega
              refine ⟨B, Gh.put_same _ _ _ _, y1, y2, fun _ => y3 rfl, fun h => by omega, y5, fun j d hd hj hj' => ?_⟩
              obtain ⟨v, g3, g4⟩ := y6 j d hd hj hj'
              exact ⟨v, g3, rep_plain (hpl d (List.mem_of_getElem? hd)) g4⟩) (fun _ => trivial)
            refine ⟨_, _, rfl, ?_, hle, by rw [hc1, hs1]; exact hI, hbel.mono hB0⟩
            rw [Rep]
            refine ⟨_, rfl, Reps.cons (rep_plain rfl a1) (Reps.cons ?_ (Reps.cons ?_ (Reps.cons (rep_plain rfl a4) (Reps.cons ?_ Reps.nil))))⟩
            · rw [Rep] at a2; unfold nilS; rw [Rep]; exact a2
            · rw [Rep] at a3; unfold nilS; rw [Rep]; exact a3
            · rw [Rep]
              exact ⟨B, aa, cc, Gh.put_same _ _ _ _, rfl, z1, z2, z3, z4, z5, z6, z7, z8⟩
          · cases h4
        · cases h
    · exact (fail_inv hrun).elim
end Go.E
end
section
namespace Go.E
open Go Go.RowKit
noncomputable def minusD : DV := .int .i64 (.negSucc 0)
noncomputable def zeroD : DV := .int .i64 (.ofNat 0)
noncomputable def oneD : DV := .int .i64 (.ofNat 1)
noncomputable def cmpD (a b : Int) (k : M DV) : M DV := Bool.rec (Bool.rec (pur oneD) (pur minusD) (leZ a b)) k (eqZ a b)
noncomputable def pCompare : List DV → M DV := fun as => match as with
  | [.agg [.int .i64 a, .int .i64 b], .agg [.int .i64 c, .int .i64 d]] => cmpD a c (cmpD b d (pur zeroD))
  | _ => fail
theorem ok_cmpD (a b : Int) {k : M DV} (hk : Ok k) : Ok (cmpD a b k) := by
  unfold cmpD
  cases eqZ a b
  · cases leZ a b <;> exact Ok.pur _
  · exact hk
theorem ok_pCompare (args : List DV) : Ok (pCompare args) := by
  unfold pCompare
  split
  · exact ok_cmpD _ _ (ok_cmpD _ _ (Ok.pur _))
  · exact Ok.fail
def cmpN (a b : Int) (k : Int) : Int := if a = b then k else if a ≤ b then -1 else 1
theorem cmpD_inv {a b : Int} {k : M DV} {σ σ' : Sto} {d : DV} (h : Runs (cmpD a b k) σ d σ') {n : Int} (hk : a = b → Runs k σ d σ' → d = .int .i64 n ∧ σ' = σ) : d = .int .i64 (cmpN a b n) ∧ σ' = σ := by
  unfold cmpD at h
  rw [eqZ_eq, leZ_eq] at h
  unfold cmpN
  by_cases he : a = b
  · rw [if_pos he]
    have hb : (a == b) = true := by simpa using he
    rw [hb] at h
    exact hk he h
  · rw [if_neg he]
    have hb : (a == b) = false := by simpa using he
    rw [hb] at h
    by_cases hl : a ≤ b
    · rw [if_pos hl]
      rw [decide_eq_true hl] at h
      obtain ⟨rfl, rfl⟩ := pur_inv h
      exact ⟨rfl, rfl⟩
    · rw [if_neg hl]
      rw [decide_eq_false hl] at h
      obtain ⟨rfl, rfl⟩ := pur_inv h
      exact ⟨rfl, rfl⟩
theorem prim_compare {P : Program} {f : Nat} {fn : Func} {b : Code} (hf : P.funcs[f]? = some fn) (hb : fn.body = some b) (hn : (fn.name == "runtime.NumGoroutine") = false)
    (h : ∀ (a b c d : Int) (w : World), Calls P f #[.agg #[.int .i64 a, .int .i64 b], .agg #[.int .i64 c, .int .i64 d]] w fun e w' => e = .returned (.int .i64 (cmpN a c (cmpN b d 0))) ∧ Below w.heap.size w w') : PrimOk P f pCompare := by
  refine ⟨ok_pCompare, fun B0 L G w ds vs σ d σ' hrun hr hg I hB0 hL => ?_⟩
  unfold pCompare at hrun
  split at hrun
  · rename_i a b c e
    obtain ⟨rfl, rfl⟩ := cmpD_inv hrun (n := cmpN b e 0) fun _ h => cmpD_inv h (n := 0) fun _ h => by
      obtain ⟨rfl, rfl⟩ := pur_inv h
      exact ⟨rfl, rfl⟩
    obtain ⟨v0, r0, rfl, h0, hr0⟩ := Reps.cons_iff.1 hr
    obtain ⟨v1, r1, rfl, h1, hr1⟩ := Reps.cons_iff.1 hr0
    rw [Reps.nil_iff] at hr1
    subst hr1
    rw [Rep] at h0 h1
    obtain ⟨us, rfl, hus⟩ := h0
    obtain ⟨us', rfl, hus'⟩ := h1
    obtain ⟨u1, t1, rfl, a1, b1⟩ := Reps.cons_iff.1 hus
    obtain ⟨u2, t2, rfl, a2, b2⟩ := Reps.cons_iff.1 b1
    rw [Reps.nil_iff] at b2
    subst b2
    obtain ⟨u3, t3, rfl, a3, b3⟩ := Reps.cons_iff.1 hus'
    obtain ⟨u4, t4, rfl, a4, b4⟩ := Reps.cons_iff.1 b3
    rw [Reps.nil_iff] at b4
    subst b4
    rw [Rep] at a1 a2 a3 a4
    subst a1 a2 a3 a4
    refine .inl ⟨?_, (h a b c e w).mono fun ee w' he => ?_⟩
    · simp [callFunc, hf, run_program, hb]
      simpa using hn
    · obtain ⟨rfl, hbel⟩ := he
      refine ⟨_, G, rfl, ?_, .refl G, I.grown hbel, hbel.mono hB0⟩
      rw [Rep]
  · exact (fail_inv hrun).elim
end Go.E
end
section
namespace Go.E
open Go
def first0St : Nat := 1048594
def first0Note : List Nat := [102, 105, 114, 115, 116]
def first0Len : Nat := 69
def first0Cs : List DV := [.int .i64 (.ofNat 1048577), .int .i64 (.ofNat 1), .int .i64 (.ofNat 1), .bool false, .str [], .int .i64 (.ofNat 0), .int .i64 (.ofNat 1048577), .int .i64 (.ofNat 2), .int .i64 (.ofNat 1), .bool false, .str [], .int .i64 (.ofNat 0), .int .i64 (.ofNat 1048577), .int .i64 (.ofNat 3), .int .i64 (.ofNat 0), .bool false, .str [77], .int .i64 (.ofNat 0), .int .i64 (.ofNat 1048577), .int .i64 (.ofNat 9), .int .i64 (.ofNat 0), .bool false, .str [32], .int .i64 (.ofNat 0), .int .i64 (.ofNat 1048577), .int .i64 (.ofNat 10), .int .i64 (.ofNat 0), .bool false, .str [10], .int .i64 (.ofNat 0), .int .i64 (.ofNat 1048578), .int .i64 (.ofNat 1), .int .i64 (.ofNat 2), .bool false, .str [], .int .i64 (.ofNat 0), .int .i64 (.ofNat 1048578), .int .i64 (.ofNat 2), .int .i64 (.ofNat 0), .bool false, .str [105, 114], .int .i64 (.ofNat 1048577), .int .i64 (.ofNat 1048578), .int .i64 (.ofNat 3), .int .i64 (.ofNat 0), .bool false, .str [102], .int .i64 (.ofNat 0), .int .i64 (.ofNat 1048578), .int .i64 (.ofNat 8), .int .i64 (.ofNat 0), .bool false, .str [10], .int .i64 (.ofNat 0), .int .i64 (.ofNat 1048578), .int .i64 (.ofNat 9), .int .i64 (.ofNat 0), .bool false, .str [32], .int .i64 (.ofNat 0), .int .i64 (.ofNat 1048578), .int .i64 (.ofNat 13), .int .i64 (.ofNat 0), .bool false, .str [32], .int .i64 (.ofNat 0), .int .i64 (.ofNat 1048579), .int .i64 (.ofNat 1), .int .i64 (.ofNat 4), .bool false, .str [], .int .i64 (.ofNat 0), .int .i64 (.ofNat 1048579), .int .i64 (.ofNat 2), .int .i64 (.ofNat 0), .bool false, .str [105, 114], .int .i64 (.ofNat 1048578), .int .i64 (.ofNat 1048579), .int .i64 (.ofNat 3), .int .i64 (.ofNat 0), .bool false, .str [120], .int .i64 (.ofNat 0), .int .i64 (.ofNat 1048580), .int .i64 (.ofNat 1), .int .i64 (.ofNat 5), .bool false, .str [], .int .i64 (.ofNat 0), .int .i64 (.ofNat 1048580), .int .i64 (.ofNat 2), .int .i64 (.ofNat 1), .bool false, .str [], .int .i64 (.ofNat 1048579), .int .i64 (.ofNat 1048580), .int .i64 (.ofNat 4), .int .i64 (.ofNat 5), .bool false, .str [], .int .i64 (.ofNat 0), .int .i64 (.ofNat 1048580), .int .i64 (.ofNat 8), .int .i64 (.ofNat 0), .bool false, .str [32], .int .i64 (.ofNat 0), .int .i64 (.ofNat 1048581), .int .i64 (.ofNat 1), .int .i64 (.ofNat 4), .bool false, .str [], .int .i64 (.ofNat 0), .int .i64 (.ofNat 1048581), .int .i64 (.ofNat 2), .int .i64 (.ofNat 0), .bool false, .str [114, 105], .int .i64 (.ofNat 1048578), .int .i64 (.ofNat 1048581), .int .i64 (.ofNat 3), .int .i64 (.ofNat 0), .bool false, .str [121], .int .i64 (.ofNat 0), .int .i64 (.ofNat 1048581), .int .i64 (.ofNat 8), .int .i64 (.ofNat 0), .bool false, .str [32], .int .i64 (.ofNat 0), .int .i64 (.ofNat 1048582), .int .i64 (.ofNat 1), .int .i64 (.ofNat 5), .bool false, .str [], .int .i64 (.ofNat 0), .int .i64 (.ofNat 1048582), .int .i64 (.ofNat 2), .int .i64 (.ofNat 1), .bool false, .str [], .int .i64 (.ofNat 1048581), .int .i64 (.ofNat 1048582), .int .i64 (.ofNat 4), .int .i64 (.ofNat 5), .bool false, .str [], .int .i64 (.ofNat 0), .int .i64 (.ofNat 1048582), .int .i64 (.ofNat 8), .int .i64 (.ofNat 0), .bool false, .str [32], .int .i64 (.ofNat 0), .int .i64 (.ofNat 1048583), .int .i64 (.ofNat 1), .int .i64 (.ofNat 5), .bool false, .str [], .int .i64 (.ofNat 0), .int .i64 (.ofNat 1048583), .int .i64 (.ofNat 2), .int .i64 (.ofNat 1), .bool false, .str [], .int .i64 (.ofNat 1048578), .int .i64 (.ofNat 1048583), .int .i64 (.ofNat 4), .int .i64 (.ofNat 5), .bool false, .str [], .int .i64 (.ofNat 0), .int .i64 (.ofNat 1048583), .int .i64 (.ofNat 8), .int .i64 (.ofNat 0), .bool false, .str [32], .int .i64 (.ofNat 0), .int .i64 (.ofNat 1048584), .int .i64 (.ofNat 1), .int .i64 (.ofNat 5), .bool false, .str [], .int .i64 (.ofNat 0), .int .i64 (.ofNat 1048584), .int .i64 (.ofNat 2), .int .i64 (.ofNat 2), .bool false, .str [], .int .i64 (.ofNat 1048578), .int .i64 (.ofNat 1048584), .int .i64 (.ofNat 4), .int .i64 (.ofNat 21), .bool false, .str [43], .int .i64 (.ofNat 0), .int .i64 (.ofNat 1048584), .int .i64 (.ofNat 8), .int .i64 (.ofNat 0), .bool false, .str [32], .int .i64 (.ofNat 0), .int .i64 (.ofNat 1048585), .int .i64 (.ofNat 1), .int .i64 (.ofNat 5), .bool false, .str [], .int .i64 (.ofNat 0), .int .i64 (.ofNat 1048585), .int .i64 (.ofNat 2), .int .i64 (.ofNat 1), .bool false, .str [], .int .i64 (.ofNat 1048584), .int .i64 (.ofNat 1048585), .int .i64 (.ofNat 4), .int .i64 (.ofNat 12), .bool false, .str [], .int .i64 (.ofNat 1048579), .int .i64 (.ofNat 1048585), .int .i64 (.ofNat 8), .int .i64 (.ofNat 0), .bool false, .str [32], .int .i64 (.ofNat 0), .int .i64 (.ofNat 1048586), .int .i64 (.ofNat 1), .int .i64 (.ofNat 5), .bool false, .str [], .int .i64 (.ofNat 0), .int .i64 (.ofNat 1048586), .int .i64 (.ofNat 2), .int .i64 (.ofNat 2), .bool false, .str [], .int .i64 (.ofNat 1048584), .int .i64 (.ofNat 1048586), .int .i64 (.ofNat 4), .int .i64 (.ofNat 12), .bool false, .str [], .int .i64 (.ofNat 1048581), .int .i64 (.ofNat 1048586), .int .i64 (.ofNat 8), .int .i64 (.ofNat 0), .bool false, .str [32], .int .i64 (.ofNat 0), .int .i64 (.ofNat 1048587), .int .i64 (.ofNat 1), .int .i64 (.ofNat 2), .bool false, .str [], .int .i64 (.ofNat 0), .int .i64 (.ofNat 1048587), .int .i64 (.ofNat 2), .int .i64 (.ofNat 0), .bool false, .str [114, 105], .int .i64 (.ofNat 1048577), .int .i64 (.ofNat 1048587), .int .i64 (.ofNat 3), .int .i64 (.ofNat 0), .bool false, .str [103], .int .i64 (.ofNat 0), .int .i64 (.ofNat 1048587), .int .i64 (.ofNat 8), .int .i64 (.ofNat 0), .bool false, .str [10], .int .i64 (.ofNat 0), .int .i64 (.ofNat 1048587), .int .i64 (.ofNat 9), .int .i64 (.ofNat 0), .bool false, .str [32], .int .i64 (.ofNat 0), .int .i64 (.ofNat 1048587), .int .i64 (.ofNat 13), .int .i64 (.ofNat 0), .bool false, .str [32], .int .i64 (.ofNat 0), .int .i64 (.ofNat 1048588), .int .i64 (.ofNat 1), .int .i64 (.ofNat 5), .bool false, .str [], .int .i64 (.ofNat 0), .int .i64 (.ofNat 1048588), .int .i64 (.ofNat 2), .int .i64 (.ofNat 1), .bool false, .str [], .int .i64 (.ofNat 1048587), .int .i64 (.ofNat 1048588), .int .i64 (.ofNat 4), .int .i64 (.ofNat 5), .bool false, .str [], .int .i64 (.ofNat 0), .int .i64 (.ofNat 1048588), .int .i64 (.ofNat 8), .int .i64 (.ofNat 0), .bool false, .str [32], .int .i64 (.ofNat 0), .int .i64 (.ofNat 1048589), .int .i64 (.ofNat 1), .int .i64 (.ofNat 5), .bool false, .str [], .int .i64 (.ofNat 0), .int .i64 (.ofNat 1048589), .int .i64 (.ofNat 2), .int .i64 (.ofNat 2), .bool false, .str [], .int .i64 (.ofNat 1048587), .int .i64 (.ofNat 1048589), .int .i64 (.ofNat 4), .int .i64 (.ofNat 16), .bool false, .str [], .int .i64 (.ofNat 1048578), .int .i64 (.ofNat 1048589), .int .i64 (.ofNat 8), .int .i64 (.ofNat 0), .bool false, .str [32], .int .i64 (.ofNat 0), .int .i64 (.ofNat 1048590), .int .i64 (.ofNat 1), .int .i64 (.ofNat 5), .bool false, .str [], .int .i64 (.ofNat 0), .int .i64 (.ofNat 1048590), .int .i64 (.ofNat 2), .int .i64 (.ofNat 0), .bool false, .str [105, 114], .int .i64 (.ofNat 1048589), .int .i64 (.ofNat 1048590), .int .i64 (.ofNat 4), .int .i64 (.ofNat 17), .bool false, .str [], .int .i64 (.ofNat 1048579), .int .i64 (.ofNat 1048591), .int .i64 (.ofNat 1), .int .i64 (.ofNat 5), .bool false, .str [], .int .i64 (.ofNat 0), .int .i64 (.ofNat 1048591), .int .i64 (.ofNat 2), .int .i64 (.ofNat 1), .bool false, .str [], .int .i64 (.ofNat 1048590), .int .i64 (.ofNat 1048591), .int .i64 (.ofNat 4), .int .i64 (.ofNat 10), .bool false, .str [49], .int .i64 (.ofNat 0), .int .i64 (.ofNat 1048592), .int .i64 (.ofNat 1), .int .i64 (.ofNat 5), .bool false, .str [], .int .i64 (.ofNat 0), .int .i64 (.ofNat 1048592), .int .i64 (.ofNat 2), .int .i64 (.ofNat 0), .bool false, .str [114, 105], .int .i64 (.ofNat 1048589), .int .i64 (.ofNat 1048592), .int .i64 (.ofNat 4), .int .i64 (.ofNat 17), .bool false, .str [], .int .i64 (.ofNat 1048581), .int .i64 (.ofNat 1048593), .int .i64 (.ofNat 1), .int .i64 (.ofNat 5), .bool false, .str [], .int .i64 (.ofNat 0), .int .i64 (.ofNat 1048593), .int .i64 (.ofNat 2), .int .i64 (.ofNat 1), .bool false, .str [], .int .i64 (.ofNat 1048592), .int .i64 (.ofNat 1048593), .int .i64 (.ofNat 4), .int .i64 (.ofNat 10), .bool false, .str [50], .int .i64 (.ofNat 0), .int .i64 (.ofNat 1048593), .int .i64 (.ofNat 8), .int .i64 (.ofNat 0), .bool false, .str [32], .int .i64 (.ofNat 0)]
end Go.E
end
section
namespace Go.E
open Go Go.RowKit
theorem idxB_cons (c b : Nat) (l : List Nat) (i : Nat) : idxB c (b :: l) i = if b = c then some i else idxB c l (i + 1) := by
  show (Bool.rec (idxB c l (i + 1)) (some i) (Nat.beq b c) : Option Nat) = _
  by_cases h : b = c
  · subst h
    rw [if_pos rfl, Nat.beq_refl]
  · have hb : Nat.beq b c = false := by
      cases hh : Nat.beq b c with
      | false => rfl
      | true => exact absurd (Nat.eq_of_beq_eq_true hh) h
    rw [if_neg h, hb]
theorem idxB_find (c : UInt8) : ∀ (l pre : List UInt8), idxB c.toNat (l.map UInt8.toNat) pre.length = (List.range' pre.length l.length).find? fun i => (pre ++ l).getD i 0 == c
  | [], pre => rfl
  | b :: l, pre => by
    rw [List.map_cons, idxB_cons, List.length_cons, List.range'_succ, List.find?_cons]
    have h0 : (pre ++ b :: l).getD pre.length 0 = b := by simp [List.getD]
    rw [h0]
    have ih := idxB_find c l (pre ++ [b])
    rw [List.length_append, List.length_singleton, List.append_assoc, List.singleton_append] at ih
    by_cases h : b = c
    · subst h
      rw [if_pos rfl]
      simp
    · have h' : ¬ b.toNat = c.toNat := fun hh => h (UInt8.toNat_inj.1 hh)
      have hb : (b == c) = false := by simpa using h
      rw [if_neg h', hb, ih]
theorem idxB_is (s : ByteArray) (c : Nat) (hc : c ≤ 255) : ((List.range s.size).find? fun i => s[i]! == c.toUInt8) = idxB c (s.data.toList.map UInt8.toNat) 0 := by
  have h := idxB_find c.toUInt8 s.data.toList []
  have hcc : c.toUInt8.toNat = c := by
    show (UInt8.ofNat c).toNat = c
    rw [UInt8.toNat_ofNat']
    omega
  rw [hcc, List.nil_append, List.length_nil] at h
  rw [h, List.range_eq_range', Array.length_toList]
  congr 1
  funext i
  have : s[i]! = s.data.toList.getD i 0 := by
    by_cases hi : i < s.size
    · have h2 : i < s.data.size := hi
      rw [getElem!_pos s i hi, List.getD_eq_getElem?_getD, List.getElem?_eq_getElem (by simpa using h2)]
      rfl
    · have h2 : ¬ i < s.data.size := hi
      rw [getElem!_neg s i hi, List.getD_eq_getElem?_getD, List.getElem?_eq_none (by simpa using h2)]
      rfl
  rw [this]
theorem prim_indexByte {P : Program} {f : Nat} {fn : Func} (hf : P.funcs[f]? = some fn) (hb : fn.body.isNone = true) (hn : (fn.name == "runtime.NumGoroutine") = false) (h1 : Extern.findNext fn = none) (h2 : Extern.find fn = some Extern.BytealgIndexByte.indexByte) : PrimOk P f pIndexByte := by
  refine ⟨fun args => ?_, fun B0 L G w ds vs σ d σ' hrun hr hg I hB0 hL => ?_⟩
  · unfold pIndexByte
    split
    · rename_i l c
      refine Ok.cond ?_ Ok.fail
      cases idxB c l 0 with
      | none => exact Ok.pur _
      | some i =>
        show Ok (seqN i fun i => E.pur (DV.int .i64 (.ofNat i)))
        rw [seqN_eq]; exact Ok.pur _
    · exact Ok.fail
  · unfold pIndexByte at hrun
    split at hrun
    · rename_i l c
      obtain ⟨hc, hrun2⟩ := cond_fail_inv hrun
      clear hrun
      have hc : c ≤ 255 := Nat.le_of_ble_eq_true hc
      obtain ⟨v0, r0, rfl, e0, hr0⟩ := Reps.cons_iff.1 hr
      obtain ⟨v1, r1, rfl, e1, hr1⟩ := Reps.cons_iff.1 hr0
      rw [Reps.nil_iff] at hr1
      subst hr1
      rw [Rep] at e0
      rw [Rep] at e1
      obtain ⟨s, rfl, hs⟩ := e0
      subst e1
      have key : ∀ v, ((match idxB c l 0 with | some i => (pure (goInt i) : Sem Value) | none => pure (goInt (-1))) = pure v) → (callFunc f #[.string s, .int .u8 (.ofNat c)]).run P w = .ok (.value v) w := fun v hv => by
        refine (run_callFunc_extern hf hn hb h1 h2 _ _).trans ?_
        have : Extern.BytealgIndexByte.indexByte #[.string s, .int .u8 (.ofNat c)] = (match (List.range s.size).find? fun i => s[i]! == c.toUInt8 with
          | some i => pure (goInt i)
          | none => pure (goInt (-1)) : Sem Value) := rfl
        rw [this, idxB_is s c hc, hs, hv]
        rfl
      have fin : ∃ n : Int, d = .int .i64 n ∧ σ' = σ ∧ (callFunc f #[.string s, .int .u8 (.ofNat c)]).run P w = .ok (.value (.int .i64 n)) w := by
        cases hi : idxB c l 0 with
        | none =>
          rw [hi] at hrun2 key
          obtain ⟨rfl, rfl⟩ := pur_inv hrun2
          exact ⟨-1, rfl, rfl, key _ rfl⟩
        | some i =>
          rw [hi] at hrun2 key
          have hrun2 : Runs (seqN i fun i => E.pur (DV.int .i64 (.ofNat i))) σ d σ' := hrun2
          rw [seqN_eq] at hrun2
          obtain ⟨rfl, rfl⟩ := pur_inv hrun2
          exact ⟨i, rfl, rfl, key _ rfl⟩
      obtain ⟨n, rfl, rfl, hcall⟩ := fin
      exact .inr ⟨_, w, G, hcall, by rw [Rep], .refl G, I, .refl _ _⟩
    · exact (fail_inv hrun).elim
end Go.E
end
section
namespace Go.E
open Go Go.RowKit
variable {P : Program} {B0 L c : Nat} {G : Gh} {w w' : World} {s : Tm}
theorem memN_iff (x : Nat) : ∀ l : List Nat, memN x l = false → x ∉ l
  | [], _ => by simp
  | y :: r, h => by
    replace h : (Bool.rec (memN x r) true (Nat.beq x y) : Bool) = false := h
    cases hb : Nat.beq x y with
    | true => rw [hb] at h; cases h
    | false =>
      rw [hb] at h
      have hne : x ≠ y := fun e => by subst e; rw [Nat.beq_refl] at hb; cases hb
      simp [hne, memN_iff x r h]
theorem nodN_ok : ∀ l : List Nat, nodN l = true → l.Nodup
  | [], _ => List.nodup_nil
  | x :: r, h => by
    replace h : (Bool.rec (nodN r) false (memN x r) : Bool) = true := h
    cases hb : memN x r with
    | true => rw [hb] at h; cases h
    | false =>
      rw [hb] at h
      exact List.nodup_cons.2 ⟨memN_iff x r hb, nodN_ok r h⟩
theorem ok_keysIn (b e : Nat) {k : List DV → M DV} (hk : ∀ ks, Ok (k ks)) : Ok (keysIn b e k) := by
  unfold keysIn
  refine Ok.bind (ok_loadC _ _ _ _) fun cs => ?_
  split
  · refine Ok.bind (Ok.rd _) fun r => ?_
    split
    · exact Ok.cond (hk _) Ok.fail
    · exact Ok.fail
  · exact Ok.fail
theorem box_world (I : Inv B0 G c L s w) {b e e' m fz : Nat} {row : List DV} {v : Value} (hv : Rep G (.ptr b e 0 1) v) (hrow : s.get b = .row e' m fz row) (hm : m ≤ e) (he : e ≤ e') (hlen : 0 + 1 ≤ row.length) :
    ∃ B d u, G b e = some B ∧ v = .pointer (some ⟨B.b, 0, none⟩) ∧ B.b < w.heap.size ∧ row[0]? = some d ∧ w.cell? ⟨B.b, 0, none⟩ = some u ∧ Rep G d u := by
  rw [Rep] at hv
  obtain ⟨B, hB, rfl, h1, h2⟩ := hv
  obtain ⟨rm, rfz, rr⟩ := I.row b e' m fz row hrow
  obtain ⟨B', hB', y1, y2, y3, y4, y5, y6⟩ := rr e hm he
  rw [hB] at hB'
  cases hB'
  obtain ⟨-, hlt, -⟩ := I.known b e B hB
  have hsh : B.sh = 0 := by omega
  have h0 : row[0]? = some (row[0]'(by omega)) := List.getElem?_eq_getElem (by omega)
  obtain ⟨u, g1, g2⟩ := y6 0 _ h0 (by omega) (by omega)
  rw [hsh] at g1 ⊢
  exact ⟨B, _, u, hB, rfl, hlt, h0, g1, g2⟩
theorem keysIn_world {b e : Nat} {k : List DV → M DV} {σ σ' : Sto} {d : DV} (h : Runs (keysIn b e k) σ d σ') (hk : ∀ ks, Ok (k ks)) (hg : σ.Good) (I : Inv B0 G σ.c L σ.s w) {v : Value} (hv : Rep G (.ptr b e 0 1) v) :
    ∃ (Bm bm : Nat) (es : Array MapEntry) (clk : Nat) (ks : List DV) (σ1 : Sto), v = .pointer (some ⟨Bm, 0, none⟩) ∧ Bm < w.heap.size ∧ w.cell? ⟨Bm, 0, none⟩ = some (.map (some bm)) ∧ w.heap[bm]? = some (.map es clk) ∧ Reps G ks (es.toList.map (·.key)) ∧
      (∀ x ∈ es.toList, x.born < clk) ∧ (es.toList.map (·.born)).Nodup ∧ σ1.c = σ.c ∧ σ1.s = σ.s ∧ Runs (k ks) σ1 d σ' := by
  unfold keysIn at h
  obtain ⟨cs, σ1, h1, h2⟩ := h.split (ok_loadC _ _ _ _)
  obtain ⟨e', m, fz, row, hrow, hm, he, hlen, rfl, hc1, hs1⟩ := loadC_inv h1
  obtain ⟨B, d0, u, hB, rfl, hlt, hd0, hcell, hrep⟩ := box_world I hv hrow hm he hlen
  split at h2
  · rename_i n hcs
    obtain ⟨r, σ2, h3, h4⟩ := h2.split (Ok.rd _)
    obtain ⟨rfl, hc2, hs2⟩ := rd_inv h3
    split at h4
    · rename_i clk ks vs bs hents
      obtain ⟨hn, h5⟩ := cond_fail_inv h4
      have hdd : d0 = .map n := by
        have : ((row.drop 0).take 1)[0]? = some (.map n) := by rw [hcs]; rfl
        rw [List.getElem?_take_of_lt (by omega), List.drop_zero, hd0] at this
        exact Option.some.inj this
      subst hdd
      rw [Rep] at hrep
      obtain ⟨Bm, hBm, rfl⟩ := hrep
      have hobj := I.obj n
      rw [hs1] at hents
      rw [hents] at hobj
      obtain ⟨B2, es, hB2, hheap, ⟨q1, q2, q3⟩, q4⟩ := hobj
      rw [hBm] at hB2
      cases hB2
      refine ⟨B.b, Bm.b, es, clk, ks, σ2, rfl, hlt, hcell, hheap, q1, fun x hx => q4 _ (q3 ▸ List.mem_map_of_mem hx), q3 ▸ nodN_ok _ hn, hc2.trans hc1, hs2.trans hs1, h5⟩
    · exact (fail_inv h4).elim
  · exact (fail_inv h2).elim
theorem row_answer {σ : Sto} {G' : Gh} {t sz n : Nat} {cs : List DV} {xs : List Value} {v : Value} (I : Inv B0 G σ.c L σ.s w) (hb : Below w.heap.size w w') (hB0 : B0 ≤ w.heap.size) (hL : σ.c < L) (hc : σ.c + 1 < 2 ^ depth)
    (ho : w'.ownsRow w.heap.size t sz v n xs) (hn : 1 ≤ n) (hsz : 1 ≤ sz) (hxs : Reps G' cs xs) (hp : ∀ d ∈ cs, plainD d = true) :
    ∃ G'', G.le G'' ∧ Inv B0 G'' (σ.c + 1) L (σ.s.put (.row 0 0 0 cs) σ.c) w' ∧ Rep G'' (.sl σ.c 0 0 sz n none) v := by
  obtain ⟨hl, hcase⟩ := ho
  rcases hcase with ⟨rfl, hz⟩ | ⟨g, cap, cur, rfl, hbase, hgb, r1, r2, r3, r4⟩
  · omega
  have hlt : g < w'.heap.size := (Array.getElem?_eq_some_iff.1 hgb).1
  have hcl : cs.length = n * sz := by rw [← hl]; exact hxs.length.symm
  have hcap : n * sz ≤ cap * sz := Nat.mul_le_mul_right _ r1
  obtain ⟨hI, hle⟩ := I.adoptObj hb hB0 hL hc ⟨g, 0, cap * sz, n * sz⟩ hbase hlt (.row 0 0 0 cs) (Nat.le_refl _) (fun hle e m fz cs' hcs => by
    cases hcs
    refine ⟨Nat.le_refl _, Nat.zero_le _, fun e' g1 g2 => ?_⟩
    obtain rfl : e' = 0 := by omega
    refine ⟨⟨g, 0, cap * sz, n * sz⟩, Gh.put_same _ _ _ _, Nat.zero_le _, by simpa using hcap, fun _ => hcl.symm, fun h => by omega, ⟨cur, t, hgb, r3⟩, fun j d hd hj hj' => ?_⟩
    obtain ⟨u, g3, g4⟩ := hxs.get hd
    refine ⟨u, ?_, rep_plain (hp d (List.mem_of_getElem? hd)) g4⟩
    have hj2 : j < n * sz := hj'
    have h5 : (cur.toList.take (n * sz))[j]? = some u := by rw [r4]; exact g3
    rw [List.getElem?_take_of_lt hj2, Array.getElem?_toList] at h5
    simp only [World.cell?]
    rw [hgb]
    simpa using h5) (fun _ => trivial)
  refine ⟨_, hle, hI, ?_⟩
  rw [Rep]
  refine ⟨⟨g, 0, cap * sz, n * sz⟩, ⟨g, 0, none⟩, cap, Gh.put_same _ _ _ _, rfl, hsz, r1, by simp, by simp, .inr (by simp), by simp, fun _ => by simp, fun x hx => by cases hx⟩
end Go.E
end
section
namespace Go.E
open Go Go.RowKit
variable {P : Program} {B0 L : Nat} {G : Gh} {w w' : World}
theorem ins_perm {α : Type} (le : α → α → Bool) (ins : α → List α → List α) (h0 : ∀ x, ins x [] = [x]) (h1 : ∀ x y r, ins x (y :: r) = bif le x y then x :: y :: r else y :: ins x r) (x : α) : ∀ l, (ins x l).Perm (x :: l)
  | [] => by rw [h0]
  | y :: r => by
    rw [h1]
    cases le x y
    · exact ((ins_perm le ins h0 h1 x r).cons y).trans (List.Perm.swap x y r)
    · exact List.Perm.refl _
theorem ins_sorted {α : Type} (le : α → α → Bool) (tot : ∀ x y, le x y = false → le y x = true) (tr : ∀ x y z, le x y = true → le y z = true → le x z = true) (ins : α → List α → List α) (h0 : ∀ x, ins x [] = [x]) (h1 : ∀ x y r, ins x (y :: r) = bif le x y then x :: y :: r else y :: ins x r) (x : α) :
    ∀ l, l.Pairwise (fun a b => le a b = true) → (ins x l).Pairwise (fun a b => le a b = true)
  | [], _ => by rw [h0]; exact List.pairwise_singleton _ _
  | y :: r, h => by
    rw [h1]
    obtain ⟨g1, g2⟩ := List.pairwise_cons.1 h
    cases hxy : le x y with
    | true =>
      refine List.pairwise_cons.2 ⟨fun z hz => ?_, h⟩
      rcases List.mem_cons.1 hz with rfl | hz
      · exact hxy
      · exact tr _ _ _ hxy (g1 z hz)
    | false =>
      refine List.pairwise_cons.2 ⟨fun z hz => ?_, ins_sorted le tot tr ins h0 h1 x r g2⟩
      rcases List.mem_cons.1 ((ins_perm le ins h0 h1 x r).mem_iff.1 hz) with rfl | hz
      · exact tot _ _ hxy
      · exact g1 z hz
theorem sortZ_perm : ∀ l, (sortZ l).Perm l
  | [] => .nil
  | x :: r => (ins_perm leZ insZ (fun _ => rfl) (fun x y r => by show (Bool.rec _ _ (leZ x y) : List Int) = _; cases leZ x y <;> rfl) x (sortZ r)).trans ((sortZ_perm r).cons x)
theorem sortZ_sorted : ∀ l, (sortZ l).Pairwise fun a b => leZ a b = true
  | [] => .nil
  | x :: r => ins_sorted leZ (fun x y h => by rw [leZ_eq] at *; simp at *; omega) (fun x y z h h' => by rw [leZ_eq] at *; simp at *; omega) insZ (fun _ => rfl) (fun x y r => by show (Bool.rec _ _ (leZ x y) : List Int) = _; cases leZ x y <;> rfl) x _ (sortZ_sorted r)
theorem leS_eq (x y : Int × Int) : leS x y = decide (x.1 < y.1 ∨ (x.1 = y.1 ∧ x.2 ≤ y.2)) := by
  unfold leS
  rw [eqZ_eq, leZ_eq, leZ_eq]
  by_cases h : x.1 = y.1
  · simp [h]
  · have hb : (x.1 == y.1) = false := by simpa using h
    rw [hb]
    show decide (x.1 ≤ y.1) = _
    rw [decide_eq_decide]
    omega
theorem sortS_perm : ∀ l, (sortS l).Perm l
  | [] => .nil
  | x :: r => (ins_perm leS insS (fun _ => rfl) (fun x y r => by show (Bool.rec _ _ (leS x y) : List (Int × Int)) = _; cases leS x y <;> rfl) x (sortS r)).trans ((sortS_perm r).cons x)
theorem sortS_sorted : ∀ l, (sortS l).Pairwise fun a b => leS a b = true
  | [] => .nil
  | x :: r => ins_sorted leS (fun x y h => by rw [leS_eq] at *; simp at *; omega) (fun x y z h h' => by rw [leS_eq] at *; simp at *; omega) insS (fun _ => rfl) (fun x y r => by show (Bool.rec _ _ (leS x y) : List (Int × Int)) = _; cases leS x y <;> rfl) x _ (sortS_sorted r)
theorem allInts_ok : ∀ {ks : List DV} {l : List Int}, allInts ks = some l → ks = l.map (DV.int .i64)
  | [], l, h => by cases h; rfl
  | d :: r, l, h => by
    replace h : (match (generalizing := false) d, allInts r with | .int .i64 n, some r => some (n :: r) | _, _ => none : Option (List Int)) = some l := h
    split at h
    · rename_i n r' hr
      cases h
      rw [allInts_ok hr]; rfl
    · cases h
theorem allSpots_ok : ∀ {ks : List DV} {l : List (Int × Int)}, allSpots ks = some l → ks = l.map fun x => .agg [.int .i64 x.1, .int .i64 x.2]
  | [], l, h => by cases h; rfl
  | d :: r, l, h => by
    replace h : (match (generalizing := false) d, allSpots r with | .agg [.int .i64 a, .int .i64 b], some r => some ((a, b) :: r) | _, _ => none : Option (List (Int × Int))) = some l := h
    split at h
    · rename_i a b r' hr
      cases h
      rw [allSpots_ok hr]; rfl
    · cases h
theorem reps_ints : ∀ {l : List Int} {vs : List Value}, Reps G (l.map (DV.int .i64)) vs → vs = l.map (Value.int .i64)
  | [], vs, h => by rw [List.map_nil, Reps.nil_iff] at h; exact h
  | x :: r, vs, h => by
    rw [List.map_cons] at h
    obtain ⟨v, r', rfl, h1, h2⟩ := Reps.cons_iff.1 h
    rw [Rep] at h1
    rw [h1, reps_ints h2]; rfl
theorem ints_reps : ∀ l : List Int, Reps G (l.map (DV.int .i64)) (l.map (Value.int .i64))
  | [] => Reps.nil
  | x :: r => Reps.cons (by rw [Rep]) (ints_reps r)
theorem reps_spots : ∀ {l : List (Int × Int)} {vs : List Value}, Reps G (l.map fun x => .agg [.int .i64 x.1, .int .i64 x.2]) vs → vs = l.map fun x => .agg #[.int .i64 x.1, .int .i64 x.2]
  | [], vs, h => by rw [List.map_nil, Reps.nil_iff] at h; exact h
  | x :: r, vs, h => by
    rw [List.map_cons] at h
    obtain ⟨v, r', rfl, h1, h2⟩ := Reps.cons_iff.1 h
    rw [Rep] at h1
    obtain ⟨us, rfl, h3⟩ := h1
    obtain ⟨u1, r1, rfl, e1, h4⟩ := Reps.cons_iff.1 h3
    obtain ⟨u2, r2, rfl, e2, h5⟩ := Reps.cons_iff.1 h4
    rw [Reps.nil_iff] at h5
    subst h5
    rw [Rep] at e1 e2
    rw [e1, e2, reps_spots h2]; rfl
theorem flatS_eq : ∀ l : List (Int × Int), flatS l = l.flatMap fun x => [DV.int .i64 x.1, DV.int .i64 x.2]
  | [] => rfl
  | x :: r => by rw [List.flatMap_cons, ← flatS_eq r]; rfl
theorem spots_reps : ∀ l : List (Int × Int), Reps G (flatS l) (l.flatMap fun x => [Value.int .i64 x.1, Value.int .i64 x.2])
  | [] => Reps.nil
  | x :: r => Reps.cons (by rw [Rep]) (Reps.cons (by rw [Rep]) (spots_reps r))
theorem plain_ints (l : List Int) : ∀ d ∈ l.map (DV.int .i64), plainD d = true := fun d hd => by
  obtain ⟨n, -, rfl⟩ := List.mem_map.1 hd
  rfl
theorem plain_flatS (l : List (Int × Int)) : ∀ d ∈ flatS l, plainD d = true := fun d hd => by
  rw [flatS_eq] at hd
  obtain ⟨x, -, hx⟩ := List.mem_flatMap.1 hd
  simp at hx
  rcases hx with rfl | rfl <;> rfl
theorem ok_someInts (ks : List DV) {k : List Int → M DV} (hk : ∀ l, Ok (k l)) : Ok (someInts ks k) := by
  unfold someInts
  refine Ok.cond ?_ Ok.fail
  cases allInts ks with
  | none => exact Ok.fail
  | some l => exact hk l
theorem ok_someSpots (ks : List DV) {k : List (Int × Int) → M DV} (hk : ∀ l, Ok (k l)) : Ok (someSpots ks k) := by
  unfold someSpots
  refine Ok.cond ?_ Ok.fail
  cases allSpots ks with
  | none => exact Ok.fail
  | some l => exact hk l
theorem ok_rowInts (l : List Int) : Ok (rowInts l) := by
  unfold rowInts
  split
  · exact Ok.pur _
  · rw [mapR_eq, seqLD_eq]
    refine Ok.bind (ok_newRow _) fun n => ?_
    rw [seqN_eq]
    exact Ok.pur _
theorem ok_rowSpots (l : List (Int × Int)) : Ok (rowSpots l) := by
  unfold rowSpots
  split
  · exact Ok.pur _
  · rw [seqLD_eq]
    refine Ok.bind (ok_newRow _) fun n => ?_
    rw [seqN_eq]
    exact Ok.pur _
theorem someInts_inv {ks : List DV} {k : List Int → M DV} {σ σ' : Sto} {d : DV} (h : Runs (someInts ks k) σ d σ') : ∃ l, ks = l.map (DV.int .i64) ∧ l.length ≤ 100000 ∧ Runs (k l) σ d σ' := by
  unfold someInts at h
  obtain ⟨hb, h2⟩ := cond_fail_inv h
  have hl := Nat.le_of_ble_eq_true hb
  rw [lenR_eq] at hl
  cases ha : allInts ks with
  | none => rw [ha] at h2; exact (fail_inv h2).elim
  | some l =>
    rw [ha] at h2
    have hk := allInts_ok ha
    exact ⟨l, hk, by rw [hk, List.length_map] at hl; exact hl, h2⟩
theorem someSpots_inv {ks : List DV} {k : List (Int × Int) → M DV} {σ σ' : Sto} {d : DV} (h : Runs (someSpots ks k) σ d σ') : ∃ l, (ks = l.map fun x => .agg [.int .i64 x.1, .int .i64 x.2]) ∧ l.length ≤ 100000 ∧ Runs (k l) σ d σ' := by
  unfold someSpots at h
  obtain ⟨hb, h2⟩ := cond_fail_inv h
  have hl := Nat.le_of_ble_eq_true hb
  rw [lenR_eq] at hl
  cases ha : allSpots ks with
  | none => rw [ha] at h2; exact (fail_inv h2).elim
  | some l =>
    rw [ha] at h2
    have hk := allSpots_ok ha
    exact ⟨l, hk, by rw [hk, List.length_map] at hl; exact hl, h2⟩
theorem rowAny_answer {σ σ1 σ' : Sto} {d : DV} {t sz : Nat} {cs : List DV} {xs : List Value} {v : Value} {n : Nat} {m : M DV}
    (hm : (n = 0 → m = pur nilS) ∧ (1 ≤ n → m = bind (newRow cs) fun nn => pur (.sl nn 0 0 sz n none))) (h : Runs m σ1 d σ') (hc1 : σ1.c = σ.c) (hs1 : σ1.s = σ.s)
    (I : Inv B0 G σ.c L σ.s w) (hb : Below w.heap.size w w') (hB0 : B0 ≤ w.heap.size) (hL : σ'.c ≤ L) (ho : w'.ownsRow w.heap.size t sz v n xs) (hsz : 1 ≤ sz) (hnil : n = 0 → v = .slice none 0 0) {G0 : Gh} (hxs : Reps G0 cs xs) (hp : ∀ d ∈ cs, plainD d = true) :
    ∃ G'', Rep G'' d v ∧ G.le G'' ∧ Inv B0 G'' σ'.c L σ'.s w' ∧ Below B0 w w' := by
  rcases Nat.eq_zero_or_pos n with h0 | h0
  · rw [hm.1 h0] at h
    obtain ⟨rfl, rfl⟩ := pur_inv h
    refine ⟨G, by rw [hnil h0]; unfold nilS; rw [Rep], .refl G, by rw [hc1, hs1]; exact I.grown hb, hb.mono hB0⟩
  · rw [hm.2 h0] at h
    obtain ⟨nn, σ2, h1, h2⟩ := h.split (ok_newRow _)
    obtain ⟨hone, rfl, hd, hc2, hs2⟩ := newRow_inv h1
    obtain ⟨rfl, rfl⟩ := pur_inv h2
    obtain ⟨G'', g1, g2, g3⟩ := row_answer (σ := σ) (cs := cs) I hb hB0 (by omega) (by omega) ho h0 hsz hxs hp
    refine ⟨G'', by rw [hc1]; exact g3, g1, by rw [hc2, hs2, hc1, hs1]; exact g2, hb.mono hB0⟩
def TrAll {α : Type} (Q : Nat → α → Prop) : Tr α → Nat → Nat → Prop
  | .e, _, _ => True
  | .n none l r, a, b => TrAll Q l (a + b) (2 * b) ∧ TrAll Q r (a + 2 * b) (2 * b)
  | .n (some p) l r, a, b => Q a p ∧ TrAll Q l (a + b) (2 * b) ∧ TrAll Q r (a + 2 * b) (2 * b)
theorem TrAll.at {α : Type} {Q : Nat → α → Prop} : ∀ {t : Tr α} {a b : Nat}, TrAll Q t a b → ∀ k v, look t k = some v → Q (a + b * k) v
  | .e, a, b, _, k, v, h => by cases h
  | .n v l r, a, b, hc, k, x, h => by
    have hlr : TrAll Q l (a + b) (2 * b) ∧ TrAll Q r (a + 2 * b) (2 * b) := by
      cases v with
      | none => exact hc
      | some p => exact hc.2
    cases k with
    | zero =>
      have h : v = some x := h
      subst h
      exact hc.1
    | succ m =>
      have h2 : b * (m + 1) = b * m + b := by rw [Nat.mul_add, Nat.mul_one]
      rw [look_n] at h
      split at h
      · rename_i hm
        have := TrAll.at hlr.1 _ x h
        have h3 : 2 * b * (m / 2) = b * m := by rw [Nat.mul_comm 2 b, Nat.mul_assoc]; congr 1; omega
        rwa [show a + b + 2 * b * (m / 2) = a + b * (m + 1) by omega] at this
      · rename_i hm
        have := TrAll.at hlr.2 _ x h
        have h3 : 2 * b * (m / 2) = b * (m - 1) := by rw [Nat.mul_comm 2 b, Nat.mul_assoc]; congr 1; omega
        have h4 : b * m = b * (m - 1) + b := by
          have : m = m - 1 + 1 := by omega
          conv => lhs; rw [this, Nat.mul_add, Nat.mul_one]
        rwa [show a + 2 * b + 2 * b * (m / 2) = a + b * (m + 1) by omega] at this
theorem TrAll.all {α : Type} {Q : Nat → α → Prop} {t : Tr α} (h : TrAll Q t 0 1) : ∀ f v, look t f = some v → Q f v := fun f v hl => by
  have := h.at f v hl
  rwa [Nat.zero_add, Nat.one_mul] at this
noncomputable def yes (a : Ans) : Bool := Option.rec false (fun p => Prod.rec (fun d _ => match d with | .bool b => b | _ => false) p) a
theorem yes_run {a : Ans} (h : yes a = true) : ∃ σ', a = some (.bool true, σ') := by
  cases a with
  | none => cases h
  | some p =>
    obtain ⟨d, σ'⟩ := p
    replace h : (match (generalizing := false) d with | .bool b => b | _ => false) = true := h
    split at h
    · subst h
      exact ⟨σ', rfl⟩
    · cases h
end Go.E
end
