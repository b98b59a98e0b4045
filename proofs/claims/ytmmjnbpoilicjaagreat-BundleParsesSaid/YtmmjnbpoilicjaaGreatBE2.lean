/- The evaluator: its operations are sound. -/
import Derived.Test.YtmmjnbpoilicjaaGreatBE1
import Derived.Laws.BitsLemmas
import Derived.Laws.Bits64
import Derived.Great.BuildSlice
import Derived.Laws.MakeOwn
import Derived.Laws.StructEq
import Derived.Laws.Cover3
import Derived.Laws.BytesString
set_option linter.unusedVariables false
set_option linter.unusedSimpArgs false
section
namespace Go.E
open Go Go.RowKit
variable {P : Program} {B0 : Nat} {G : Gh} {w : World}
theorem wrap64_eq (n : Int) : wrap64 n = IntKind.i64.wrap n := by
  cases n with
  | ofNat m =>
    show (Bool.rec (IntKind.i64.wrap (.ofNat m)) (.ofNat m) (Nat.ble m 4611686018427387904) : Int) = _
    rw [ble_ite]
    split
    · rename_i h
      rw [IntKind.wrap_i64]
      simp only [Int.ofNat_eq_natCast]; omega
    · rfl
  | negSucc m =>
    show (Bool.rec (IntKind.i64.wrap (.negSucc m)) (.negSucc m) (Nat.ble m 4611686018427387904) : Int) = _
    rw [ble_ite]
    split
    · rename_i h
      rw [IntKind.wrap_i64]
      omega
    · rfl
theorem wrapI_eq (k : IntKind) (n : Int) : wrapI k n = k.wrap n := by
  cases k with
  | i64 => exact wrap64_eq n
  | _ => rfl
theorem addZ_eq (a b : Int) : addZ a b = a + b := by
  cases a <;> cases b <;> rfl
theorem subZ_eq (a b : Int) : subZ a b = a - b := by
  cases a <;> cases b <;> try rfl
  rename_i m n
  show (Bool.rec (.negSucc (Nat.pred (Nat.sub n m))) (.ofNat (Nat.sub m n)) (Nat.ble n m) : Int) = _
  cases h : Nat.ble n m with
  | true =>
    have := Nat.le_of_ble_eq_true h
    show Int.ofNat (m - n) = _
    simp only [Int.ofNat_eq_natCast]; omega
  | false =>
    have h2 : ¬ n ≤ m := fun hh => by rw [Nat.ble_eq_true_of_le hh] at h; cases h
    show Int.negSucc ((n - m) - 1) = _
    simp only [Int.ofNat_eq_natCast]; omega
theorem eqLN_eq : ∀ a b : List Nat, eqLN a b = decide (a = b)
  | [], [] => by simp [eqLN]
  | [], _ :: _ => by simp [eqLN]
  | _ :: _, [] => by simp [eqLN]
  | x :: r, y :: t => by
    show (Bool.rec false (eqLN r t) (Nat.beq x y) : Bool) = _
    rw [beq_ite, eqLN_eq r t]
    by_cases h : x = y <;> simp [h]
theorem nfD_inv {d d' : DV} {σ σ' : Sto} (h : Runs (nfD d) σ d' σ') : d' = d ∧ σ' = σ := by
  unfold nfD at h
  split at h <;> first | (simp only [seqI_eq, seqB_eq, seqLN_eq] at h; exact pur_inv h) | exact pur_inv h
theorem orNf_inv {o : Option DV} {d : DV} {σ σ' : Sto} (h : Runs (orNf o) σ d σ') : o = some d ∧ σ' = σ := by
  obtain ⟨x, rfl, h⟩ := opt_inv h
  obtain ⟨rfl, rfl⟩ := nfD_inv h
  exact ⟨rfl, rfl⟩
end Go.E
end
section
namespace Go.E
open Go Go.RowKit
variable {P : Program} {B0 : Nat} {G : Gh} {w : World}
theorem bits_nat' {k : IntKind} {a : Nat} (h : Nat.ble a (maxU k) = true) : a < 2 ^ k.bits := by
  have := Nat.le_of_ble_eq_true h
  cases k <;> simp only [maxU, IntKind.bits] at this ⊢ <;> omega
theorem wrap_small {k : IntKind} {a : Nat} (h : Nat.ble a (maxU k) = true) : k.wrap (a : Int) = a := by
  have := Nat.le_of_ble_eq_true h
  cases k <;> simp only [maxU] at this
  case u8 => rw [IntKind.wrap_u8]; omega
  case u64 => rw [IntKind.wrap_u64]; omega
  case i64 => rw [IntKind.wrap_i64]; omega
  all_goals
    obtain rfl : a = 0 := by omega
    simp [IntKind.wrap, IntKind.signed, IntKind.bits]
def width : IntKind → Nat
  | .u8 => 8
  | .u64 => 64
  | .i64 => 63
  | _ => 0
theorem maxU_width (k : IntKind) : maxU k + 1 = 2 ^ width k := by cases k <;> rfl
theorem bits_run {k : IntKind} {f : Nat → Nat → Nat} {a b : Int} {d : DV} (h : bits k f a b = some d) (hf : ∀ x y, x < 2 ^ width k → y < 2 ^ width k → f x y < 2 ^ width k) :
    ∃ x y : Nat, a = x ∧ b = y ∧ x < 2 ^ k.bits ∧ y < 2 ^ k.bits ∧ d = .int k (f x y : Nat) ∧ k.wrap (f x y : Nat) = (f x y : Nat) := by
  cases a <;> cases b <;> simp only [bits] at h <;> try (cases h)
  rename_i x y
  cases hb : Nat.ble x (maxU k) && Nat.ble y (maxU k) with
  | false => rw [hb] at h; cases h
  | true =>
    rw [hb] at h
    rw [Bool.and_eq_true] at hb
    simp only [cond_true, Option.some.injEq] at h
    have h1 := Nat.le_of_ble_eq_true hb.1
    have h2 := Nat.le_of_ble_eq_true hb.2
    have hw := maxU_width k
    have h3 := hf x y (by omega) (by omega)
    exact ⟨x, y, rfl, rfl, bits_nat' hb.1, bits_nat' hb.2, h.symm, wrap_small (Nat.ble_eq_true_of_le (by omega))⟩
theorem intOp_run {op : BinOp} {k : IntKind} {a b : Int} {d : DV} (hs : isShift op = false) (h : intOp op k a b = some d) (t : TypeId) :
    ∃ v, (binOp op t (.int k a) (.int k b)).run P w = .ok v w ∧ Rep G d v := by
  cases op <;> simp only [intOp, isShift] at h hs <;> try (cases h) <;> try (cases hs)
  case add => exact ⟨.int k (k.wrap (a + b)), by simp [binOp, Op.intArith], by rw [Rep, wrapI_eq, addZ_eq]⟩
  case sub => exact ⟨.int k (k.wrap (a - b)), by simp [binOp, Op.intArith], by rw [Rep, wrapI_eq, subZ_eq]⟩
  case mul => exact ⟨.int k (k.wrap (a * b)), by simp [binOp, Op.intArith], by rw [Rep, wrapI_eq]⟩
  case quo =>
    cases hb : eqZ b 0 with
    | true => rw [hb] at h; cases h
    | false =>
      rw [hb] at h
      simp only [cond_false, Option.some.injEq] at h
      rw [eqZ_eq] at hb
      have hb0 : ¬ b = 0 := by simpa using hb
      subst h
      exact ⟨.int k (k.wrap (a.tdiv b)), by simp [binOp, Op.intDiv, hb0], by rw [Rep, wrapI_eq]⟩
  case rem =>
    cases hb : eqZ b 0 with
    | true => rw [hb] at h; cases h
    | false =>
      rw [hb] at h
      simp only [cond_false, Option.some.injEq] at h
      rw [eqZ_eq] at hb
      have hb0 : ¬ b = 0 := by simpa using hb
      subst h
      exact ⟨.int k (a.tmod b), by simp [binOp, Op.intDiv, hb0], by rw [Rep]⟩
  case and =>
    obtain ⟨x, y, rfl, rfl, hx, hy, rfl, hw⟩ := bits_run h fun x y hx _ => Nat.lt_of_le_of_lt Nat.and_le_left hx
    refine ⟨.int k (Nat.land x y : Nat), ?_, by rw [Rep]⟩
    have e : ((BitVec.ofInt k.bits (x : Int) &&& BitVec.ofInt k.bits (y : Int)).toNat : Int) = (Nat.land x y : Nat) := by
      simp only [BitVec.ofInt_natCast, BitVec.toNat_and, BitVec.toNat_ofNat, Nat.mod_eq_of_lt hx, Nat.mod_eq_of_lt hy]; rfl
    simp only [binOp, Op.intBits, if_neg (fun h : k ≠ k => h rfl), e, hw]
    simp
  case or =>
    obtain ⟨x, y, rfl, rfl, hx, hy, rfl, hw⟩ := bits_run h fun x y hx hy => Nat.or_lt_two_pow hx hy
    refine ⟨.int k (Nat.lor x y : Nat), ?_, by rw [Rep]⟩
    have e : ((BitVec.ofInt k.bits (x : Int) ||| BitVec.ofInt k.bits (y : Int)).toNat : Int) = (Nat.lor x y : Nat) := by
      simp only [BitVec.ofInt_natCast, BitVec.toNat_or, BitVec.toNat_ofNat, Nat.mod_eq_of_lt hx, Nat.mod_eq_of_lt hy]; rfl
    simp only [binOp, Op.intBits, if_neg (fun h : k ≠ k => h rfl), e, hw]
    simp
  case xor =>
    obtain ⟨x, y, rfl, rfl, hx, hy, rfl, hw⟩ := bits_run h fun x y hx hy => Nat.xor_lt_two_pow hx hy
    refine ⟨.int k (Nat.xor x y : Nat), ?_, by rw [Rep]⟩
    have e : ((BitVec.ofInt k.bits (x : Int) ^^^ BitVec.ofInt k.bits (y : Int)).toNat : Int) = (Nat.xor x y : Nat) := by
      simp only [BitVec.ofInt_natCast, BitVec.toNat_xor, BitVec.toNat_ofNat, Nat.mod_eq_of_lt hx, Nat.mod_eq_of_lt hy]; rfl
    simp only [binOp, Op.intBits, if_neg (fun h : k ≠ k => h rfl), e, hw]
    simp
  case eql => exact ⟨.bool (a == b), by simp [binOp, Op.intCmp], by rw [Rep, eqZ_eq]⟩
  case neq => exact ⟨.bool (a != b), by simp [binOp, Op.intCmp], by rw [Rep, eqZ_eq]; rfl⟩
  case lss => exact ⟨.bool (decide (a < b)), by simp [binOp, Op.intCmp], by rw [Rep, leZ_eq]; congr 1; rw [Bool.eq_iff_iff]; simp⟩
  case leq => exact ⟨.bool (decide (a ≤ b)), by simp [binOp, Op.intCmp], by rw [Rep, leZ_eq]⟩
  case gtr => exact ⟨.bool (decide (a > b)), by simp [binOp, Op.intCmp], by rw [Rep, leZ_eq]; congr 1; rw [Bool.eq_iff_iff]; simp⟩
  case geq => exact ⟨.bool (decide (a ≥ b)), by simp [binOp, Op.intCmp], by rw [Rep, leZ_eq]⟩
end Go.E
end
section
namespace Go.E
open Go Go.RowKit
variable {P : Program} {B0 : Nat} {G : Gh} {w : World}
theorem map_toNat_inj : ∀ {a b : List UInt8}, a.map UInt8.toNat = b.map UInt8.toNat → a = b
  | [], [], _ => rfl
  | [], _ :: _, h => by simp at h
  | _ :: _, [], h => by simp at h
  | x :: r, y :: t, h => by
    simp only [List.map_cons, List.cons.injEq] at h
    rw [UInt8.toNat_inj.1 h.1, map_toNat_inj h.2]
theorem strs_eq {a b : ByteArray} {l m : List Nat} (ha : a.data.toList.map UInt8.toNat = l) (hb : b.data.toList.map UInt8.toNat = m) : (a.toList == b.toList) = eqLN l m := by
  rw [eqLN_eq, Bool.eq_iff_iff, beq_iff_eq, decide_eq_true_eq, ByteArray.toList_eq, ByteArray.toList_eq, ← ha, ← hb]
  exact ⟨fun h => by rw [h], map_toNat_inj⟩
theorem strOp_run {op : BinOp} {l m : List Nat} {d : DV} {a b : ByteArray} (h : strOp op l m = some d) (ha : a.data.toList.map UInt8.toNat = l) (hb : b.data.toList.map UInt8.toNat = m) (t : TypeId) :
    ∃ v, (binOp op t (.string a) (.string b)).run P w = .ok v w ∧ Rep G d v := by
  cases op <;> simp only [strOp] at h <;> try (cases h)
  case add =>
    cases hc : Nat.ble (l.length + m.length) 1000000 with
    | false => rw [hc] at h; cases h
    | true =>
      rw [hc] at h
      simp only [cond_true, Option.some.injEq] at h
      subst h
      have h1 := Nat.le_of_ble_eq_true hc
      have h2 := bytes_size ha
      have h3 := bytes_size hb
      refine ⟨.string (a ++ b), ?_, ?_⟩
      · have h4 : ¬ (((a.size + b.size : Nat) : Int) > IntKind.i64.max) := by
          rw [h2, h3]
          have : IntKind.i64.max = 9223372036854775807 := by decide
          rw [this]; omega
        simp only [binOp, Op.stringOp, if_neg h4]
        rfl
      · rw [Rep]
        exact ⟨a ++ b, rfl, by rw [ByteArray.data_append, Array.toList_append, List.map_append, ha, hb]⟩
  case eql => exact ⟨.bool (a.toList == b.toList), by simp [binOp, Op.stringOp], by rw [Rep, strs_eq ha hb]⟩
  case neq => exact ⟨.bool (!(a.toList == b.toList)), by simp [binOp, Op.stringOp], by rw [Rep, strs_eq ha hb]⟩
end Go.E
end
section
namespace Go.E
open Go Go.RowKit
variable {P : Program} {B0 : Nat} {G : Gh} {w : World}
theorem shl_run {k yk : IntKind} {a b : Int} {d : DV} (h : shl k a b = some d) (t : TypeId) : ∃ v, (binOp .shl t (.int k a) (.int yk b)).run P w = .ok v w ∧ Rep G d v := by
  cases a <;> cases b <;> simp only [shl] at h <;> try (cases h)
  rename_i x y
  cases hb : Nat.ble y 63 && Nat.ble y k.bits with
  | false => rw [hb] at h; cases h
  | true =>
    rw [hb] at h
    simp only [cond_true, Option.some.injEq] at h
    rw [Bool.and_eq_true] at hb
    have h1 := Nat.le_of_ble_eq_true hb.2
    subst h
    refine ⟨.int k (k.wrap ((x : Int) * 2 ^ y)), ?_, by rw [Rep, wrapI_eq]; congr 2⟩
    have h2 : ¬ ((y : Int) < 0) := by omega
    simp [binOp, Op.shift, h2, Nat.min_eq_left h1]
theorem shr_run {k yk : IntKind} {a b : Int} {d : DV} (h : shr k a b = some d) (t : TypeId) : ∃ v, (binOp .shr t (.int k a) (.int yk b)).run P w = .ok v w ∧ Rep G d v := by
  cases a <;> cases b <;> simp only [shr] at h <;> try (cases h)
  rename_i x y
  cases hb : Nat.ble y 63 && Nat.ble y k.bits with
  | false => rw [hb] at h; cases h
  | true =>
    rw [hb] at h
    simp only [cond_true, Option.some.injEq] at h
    rw [Bool.and_eq_true] at hb
    have h1 := Nat.le_of_ble_eq_true hb.2
    subst h
    refine ⟨.int k ((x : Int).fdiv (2 ^ y)), ?_, ?_⟩
    · have h2 : ¬ ((y : Int) < 0) := by omega
      simp [binOp, Op.shift, h2, Nat.min_eq_left h1]
    · rw [Rep]
      congr 1
      rw [Int.fdiv_eq_ediv_of_nonneg _ (by exact_mod_cast Nat.zero_le (2 ^ y))]
      simp
end Go.E
end
section
namespace Go.E
open Go Go.RowKit
variable {P : Program} {B0 : Nat} {G : Gh} {w : World}
theorem rep_bool {b : Bool} {v : Value} (h : Rep G (.bool b) v) : v = .bool b := by rw [Rep] at h; exact h
theorem op_extract {tb : Tab} {call : Nat → List DV → M DV} {tm : Fr} {x : Operand} {i : Nat} {d : DV} {vx : Value} {σ σ' : Sto} (h : Runs (evExtract x i tb call tm) σ d σ') (hx : Rep G (eval tm x) vx) :
    ∃ v, (Instr.extract vx i).run P w = .ok v w ∧ Rep G d v ∧ σ' = σ := by
  unfold evExtract at h
  split at h
  · rename_i vs he
    obtain ⟨y, hy, h⟩ := opt_inv h
    rw [seqD_eq] at h
    obtain ⟨rfl, rfl⟩ := pur_inv h
    rw [he, Rep] at hx
    obtain ⟨us, rfl, hr⟩ := hx
    rw [nth_eq] at hy
    obtain ⟨v, hv, hrep⟩ := hr.get hy
    exact ⟨v, by simp [Instr.extract, hv], hrep, rfl⟩
  · exact (fail_inv h).elim
theorem op_not {tb : Tab} {call : Nat → List DV → M DV} {tm : Fr} {op : UnOp} {t : Nat} {x : Operand} {d : DV} {vx : Value} {σ σ' : Sto} (h : Runs (evUn op t x tb call tm) σ d σ') (hx : Rep G (eval tm x) vx) :
    ∃ v, (Op.unary op vx).run P w = .ok v w ∧ Rep G d v ∧ σ' = σ := by
  unfold evUn at h
  split at h
  · rename_i b he
    rw [seqB_eq] at h
    obtain ⟨rfl, rfl⟩ := pur_inv h
    rw [he] at hx
    obtain rfl := rep_bool hx
    exact ⟨.bool (!b), by simp [Op.unary], by rw [Rep], rfl⟩
  · exact (fail_inv h).elim
theorem max_run {a b d : DV} {va vb : Value} {t : TypeId} {r : Array TypeId} {σ σ' : Sto} (h : Runs (orNf (maxes [a, b])) σ d σ') (ha : Rep G a va) (hb : Rep G b vb) :
    ∃ k x y, va = .int k x ∧ vb = .int k y ∧ d = .int k (if y ≤ x then x else y) ∧ σ' = σ := by
  obtain ⟨h1, rfl⟩ := orNf_inv h
  cases a <;> cases b <;> simp only [maxes] at h1 <;> try (cases h1)
  rename_i k x k' y
  cases he : eqK k k' with
  | false => rw [he] at h1; cases h1
  | true =>
    rw [he] at h1
    obtain rfl := eqK_eq he
    simp only [cond_true, Option.some.injEq] at h1
    refine ⟨k, x, y, rep_int ha, rep_int hb, ?_, rfl⟩
    rw [← h1, leZ_eq]
    by_cases hh : y ≤ x <;> simp [hh]
end Go.E
end
section
namespace Go.E
open Go Go.RowKit
variable {P : Program} {B0 : Nat} {G : Gh} {w : World}
theorem over_inv {cs nw l : List DV} {o : Nat} (h : over cs o nw = some l) : o + nw.length ≤ cs.length ∧ l = cs.take o ++ nw ++ cs.drop (o + nw.length) := by
  unfold over at h
  cases hl : least cs (Nat.add o (lenR nw)) with
  | false => rw [hl] at h; cases h
  | true =>
    rw [hl] at h
    simp only [cond_true, takeR_eq, dropR_eq, appR_eq, Option.some.injEq, lenR_eq] at h
    rw [least_eq, decide_eq_true_eq, lenR_eq] at hl
    exact ⟨hl, by rw [← h, List.append_assoc]; rfl⟩
theorem foldl_cells (o : Nat) : ∀ (vs : List Value) (k : Nat) (cs : Array Value), o + k + vs.length ≤ cs.size →
    ((vs.zipIdx k).foldl (fun (cs : Array Value) (x : Value × Nat) => cs.setIfInBounds (o + x.2) x.1) cs).toList = cs.toList.take (o + k) ++ vs ++ cs.toList.drop (o + k + vs.length)
  | [], k, cs, h => by simp
  | v :: r, k, cs, h => by
    simp only [List.length_cons] at h
    rw [List.zipIdx_cons, List.foldl_cons, foldl_cells o r (k + 1) _ (by simp; omega)]
    have hlt : o + k < cs.toList.length := by simp; omega
    have e1 : (cs.setIfInBounds (o + k) v).toList = cs.toList.set (o + k) v := by simp
    rw [e1]
    have e2 : (cs.toList.set (o + k) v).take (o + (k + 1)) = cs.toList.take (o + k) ++ [v] := by
      rw [show o + (k + 1) = (o + k) + 1 by omega, List.take_add_one, List.getElem?_set_self hlt, List.take_set_of_le (Nat.le_refl _)]
      rfl
    have e3 : (cs.toList.set (o + k) v).drop (o + (k + 1) + r.length) = cs.toList.drop (o + k + (v :: r).length) := by
      rw [List.drop_set_of_lt (by omega)]
      congr 1
      simp only [List.length_cons]; omega
    rw [e2, e3]
    simp
def Parts (G : Gh) : List (Nat × DV) → List (Nat × Value) → Prop
  | [], vs => vs = []
  | (i, d) :: r, vs => ∃ v t, vs = (i, v) :: t ∧ Rep G d v ∧ Parts G r t
theorem fill_run (place : Nat → Option (Nat × Nat)) : ∀ (l : List (Nat × DV)) (cs cs' : List DV) (vs : List Value) (vl : List (Nat × Value)), fill place cs l = some cs' → Reps G cs vs → Parts G l vl →
    ∃ vs', Instr.fill place vs.toArray vl = some vs'.toArray ∧ Reps G cs' vs'
  | [], cs, cs', vs, vl, h, hr, hp => by
    obtain rfl : vl = [] := hp
    have h : some cs = some cs' := h
    cases h
    exact ⟨vs, rfl, hr⟩
  | (i, d) :: r, cs, cs', vs, vl, h, hr, hp => by
    obtain ⟨v, t, rfl, hv, ht⟩ := hp
    have h : (Option.rec none (fun c => fill place c r) (fill1 place cs i d) : Option (List DV)) = some cs' := h
    cases h1 : fill1 place cs i d with
    | none => rw [h1] at h; cases h
    | some c1 =>
      rw [h1] at h
      have h : fill place c1 r = some cs' := h
      unfold fill1 at h1
      split at h1
      · cases h1
      · rename_i o n hpl
        cases hb : Nat.beq (lenR (cells d)) n && ones (cells d) with
        | false => rw [hb] at h1; cases h1
        | true =>
          rw [hb] at h1
          rw [Bool.and_eq_true] at hb
          obtain ⟨h2, rfl⟩ := over_inv (show over cs o (cells d) = some c1 from h1)
          have hn := Nat.eq_of_beq_eq_true hb.1
          rw [lenR_eq] at hn
          obtain ⟨us, hu, hus, -⟩ := cells_rep hv (ones_all hb.2)
          have hul := hus.length
          have hvl := hr.length
          have hsz : v.cells.size = us.length := by rw [← hu]; simp
          have hcat : Reps G (cs.take o ++ cells d ++ cs.drop (o + (cells d).length)) (vs.take o ++ us ++ vs.drop (o + us.length)) := by
            rw [hul]; exact ((hr.take _).append hus).append (hr.drop _)
          obtain ⟨vs', h3, h4⟩ := fill_run place r _ cs' _ t h hcat ht
          refine ⟨vs', ?_, h4⟩
          unfold Instr.fill
          rw [hpl]
          have hne : ¬ ((v.cells.size ≠ n || decide (o + v.cells.size > vs.toArray.size)) = true) := by
            simp [hsz]; omega
          simp only [if_neg hne]
          rw [← h3]
          congr 1
          apply Array.ext'
          have := foldl_cells o us 0 vs.toArray (by simp; omega)
          rw [Nat.add_zero] at this
          simp only [List.toList_toArray] at this
          rw [← this, ← hu]
          rw [← Array.foldl_toList, Array.toList_zipIdx]
end Go.E
end
section
namespace Go.E
open Go Go.RowKit
variable {P : Program} {B0 L : Nat} {G : Gh} {w : World}
theorem fill_length (place : Nat → Option (Nat × Nat)) : ∀ (l : List (Nat × DV)) (cs cs' : List DV), fill place cs l = some cs' → cs'.length = cs.length
  | [], cs, cs', h => by
    have h : some cs = some cs' := h
    cases h; rfl
  | (i, d) :: r, cs, cs', h => by
    have h : (Option.rec none (fun c => fill place c r) (fill1 place cs i d) : Option (List DV)) = some cs' := h
    cases h1 : fill1 place cs i d with
    | none => rw [h1] at h; cases h
    | some c1 =>
      rw [h1] at h
      rw [fill_length place r c1 cs' h]
      unfold fill1 at h1
      split at h1
      · cases h1
      · rename_i o n hpl
        cases hb : Nat.beq (lenR (cells d)) n && ones (cells d) with
        | false => rw [hb] at h1; cases h1
        | true =>
          rw [hb] at h1
          obtain ⟨h2, rfl⟩ := over_inv (show over cs o (cells d) = some c1 from h1)
          simp; omega
theorem fill_more {place place' : Nat → Option (Nat × Nat)} (hp : ∀ i p, place i = some p → place' i = some p) : ∀ (l : List (Nat × Value)) (cs cs' : Array Value), Instr.fill place cs l = some cs' → Instr.fill place' cs l = some cs'
  | [], cs, cs', h => h
  | (i, v) :: r, cs, cs', h => by
    unfold Instr.fill at h ⊢
    split at h
    · cases h
    · rename_i o n hpl
      rw [hp _ _ hpl]
      simp only
      split at h
      · cases h
      · rename_i hc
        rw [if_neg hc]
        exact fill_more hp r _ _ h
theorem op_build {tb : Tab} (hT : ∀ t ti, look tb.ty t = some ti → TyOk P t ti) {t : Nat} {parts : List (Nat × DV)} {vals : Array (Nat × Value)} {d : DV} {σ σ' : Sto} (h : Runs (opBuild tb t parts) σ d σ') (hp : Parts G parts vals.toList) :
    ∃ v, (Instr.build t vals).run P w = .ok v w ∧ Rep G d v ∧ σ' = σ := by
  unfold opBuild at h
  split at h
  · exact (fail_inv h).elim
  · rename_i ti hl
    have ht := hT t ti hl
    obtain ⟨dd, hd1, hd2, -⟩ := ht.desc
    obtain ⟨it, z, hi, -, -, hz, hzc⟩ := ht.info
    have hz' : z.cells = ti.zero.toArray := by rw [← hzc]
    split at h
    · rename_i fs htd
      rw [htd] at hd2
      obtain ⟨fields, rfl, hfs⟩ := hd2
      split at h
      · exact (fail_inv h).elim
      · rename_i cs hf
        obtain ⟨rfl, rfl⟩ := pur_inv h
        rw [mapR_eq] at hf
        obtain ⟨vs', h1, h2⟩ := fill_run (G := G) _ parts _ _ ti.zero vals.toList hf (reps_lit ti.zero) hp
        have hall : ∀ f ∈ fields.toList, ∃ i, P.info? f.type = some i := fun f hmem => ht.parts fs htd _ (by rw [← hfs]; exact List.mem_map_of_mem (f := fun f : Field => (f.offset, f.type)) hmem)
        have hmap : ∃ places, fields.toList.mapM (fun f => (P.info? f.type).map fun i => (f.offset, i.size)) = some places := by
          clear hfs hf h1
          generalize fields.toList = l at hall
          induction l with
          | nil => exact ⟨[], rfl⟩
          | cons f r ih =>
            obtain ⟨i, hi⟩ := hall f (by simp)
            obtain ⟨pl, hpl⟩ := ih fun g hg => hall g (by simp [hg])
            exact ⟨(f.offset, i.size) :: pl, by simp [List.mapM_cons, hi, hpl]⟩
        obtain ⟨places, hpl⟩ := hmap
        have hplg : ∀ (i : Nat) (p : Nat × Nat), fieldPlaces tb fs i = some p → places.toArray[i]? = some p := by
          intro i p hp
          unfold fieldPlaces at hp
          split at hp
          · cases hp
          · rename_i o ft hn
            split at hp
            · cases hp
            · rename_i fi hft
              cases hp
              rw [nth_eq, ← hfs, List.getElem?_map] at hn
              cases hfl : fields.toList[i]? with
              | none => rw [hfl] at hn; cases hn
              | some fl =>
                rw [hfl] at hn
                simp only [Option.map_some, Option.some.injEq, Prod.mk.injEq] at hn
                have h5 := mapM_some_get hpl i fl hfl
                obtain ⟨j, -, hj, hjs, -⟩ := (hT _ _ hft).info
                rw [hn.2, hj, Option.map_some, hn.1, hjs] at h5
                rw [List.getElem?_toArray]; exact h5.symm
        refine ⟨.agg vs'.toArray, run_build w t vals _ ?_, by rw [Rep]; exact ⟨vs', rfl, h2⟩, rfl⟩
        unfold Program.built
        simp only [hi, hd1, hz, hpl]
        rw [hz']
        exact fill_more hplg _ _ _ h1
    · rename_i n e htd
      rw [htd] at hd2
      have hd2 : dd = .array n e := hd2
      subst hd2
      split at h
      · exact (fail_inv h).elim
      · rename_i te hte
        split at h
        · exact (fail_inv h).elim
        · rename_i cs hf
          obtain ⟨rfl, rfl⟩ := pur_inv h
          rw [mapR_eq] at hf
          obtain ⟨vs', h1, h2⟩ := fill_run (G := G) _ parts _ _ ti.zero vals.toList hf (reps_lit ti.zero) hp
          obtain ⟨ie, -, hie, hies, -⟩ := (hT _ _ hte).info
          refine ⟨.agg vs'.toArray, run_build w t vals _ ?_, by rw [Rep]; exact ⟨vs', rfl, h2⟩, rfl⟩
          unfold Program.built
          simp only [hi, hd1, hz, hie]
          rw [hz', hies]
          exact h1
    · exact (fail_inv h).elim
theorem zeros_get (te : TI) (hz : te.zero.length = te.size) : ∀ n j, (zeros te n)[j]? = if j < n * te.size then (te.zero.map lit)[j % te.size]? else none
  | 0, j => by show ([] : List DV)[j]? = _; simp
  | n + 1, j => by
    show (appR (mapR lit te.zero id) (zeros te n) id)[j]? = _
    rw [appR_eq, mapR_eq]
    show (te.zero.map lit ++ zeros te n)[j]? = _
    rw [List.getElem?_append, List.length_map, hz, Nat.succ_mul]
    split
    · rename_i hj
      rw [if_pos (by omega), Nat.mod_eq_of_lt hj]
    · rename_i hj
      rw [zeros_get te hz n]
      by_cases h2 : j < n * te.size + te.size
      · rw [if_pos (by omega), if_pos h2, Nat.mod_eq_sub_mod (a := j) (by omega)]
      · rw [if_neg (by omega), if_neg h2]
theorem zeros_length (te : TI) (hz : te.zero.length = te.size) : ∀ n, (zeros te n).length = n * te.size
  | 0 => by show ([] : List DV).length = _; simp
  | n + 1 => by
    show (appR (mapR lit te.zero id) (zeros te n) id).length = _
    rw [appR_eq, mapR_eq]
    show (te.zero.map lit ++ zeros te n).length = _
    rw [List.length_append, List.length_map, hz, zeros_length te hz n, Nat.succ_mul, Nat.add_comm]
theorem zeros_rep (te : TI) (z : Array Value) (hzc : z.toList = te.zero) (hz : te.zero.length = te.size) (h1 : 1 ≤ te.size) (n m : Nat) (hm : m = n * te.size) : Reps G (zeros te n) ((Array.range m).map (z[· % z.size]!)).toList := by
  subst hm
  have hsz : z.size = te.size := by rw [← hz, ← hzc]; simp
  refine Reps.of_get (by simp [zeros_length te hz]) fun j d v hd hv => ?_
  rw [zeros_get te hz] at hd
  split at hd
  · rename_i hj
    have hlt : j % te.size < z.size := by rw [hsz]; exact Nat.mod_lt _ h1
    rw [List.getElem?_map, ← hzc] at hd
    rw [Array.getElem?_toList, Array.getElem?_map, Array.getElem?_range, if_pos hj] at hv
    simp only [Option.map_some, Option.some.injEq] at hv
    rw [hsz] at hv
    have h3 : z.toList[j % te.size]? = some v := by
      rw [Array.getElem?_toList, ← hv, Array.getElem?_eq_getElem hlt]
      simp [hlt]
    rw [h3] at hd
    cases hd
    exact rep_lit v
  · cases hd
theorem fine_inv {te : TI} (h : fine te = true) : te.zero.length = te.size ∧ 1 ≤ te.size ∧ 1 ≤ te.bytes ∧ te.bytes ≤ 1024 := by
  unfold fine at h
  simp only [Bool.and_eq_true] at h
  exact ⟨by rw [← lenR_eq]; exact Nat.eq_of_beq_eq_true h.1.1.1, Nat.le_of_ble_eq_true h.1.1.2, Nat.le_of_ble_eq_true h.1.2, Nat.le_of_ble_eq_true h.2⟩
theorem rep_fresh {n b sz len c : Nat} {cap ext : Nat} (hG : G n 0 = some ⟨b, 0, cap, ext⟩) (h1 : 1 ≤ sz) (hl : len ≤ c) (he : len * sz ≤ ext) (hc : c * sz = cap) : Rep G (.sl n 0 0 sz len none) (.slice (some ⟨b, 0, none⟩) len c) := by
  rw [Rep]
  exact ⟨_, ⟨b, 0, none⟩, c, hG, rfl, h1, hl, by simp, by simpa using he, .inr (by simp), by simp [hc], fun _ => by simpa using hc, fun x hx => by cases hx⟩
theorem op_buildSlice {tb : Tab} (hT : ∀ t ti, look tb.ty t = some ti → TyOk P t ti) {t len : Nat} {parts : List (Nat × DV)} {vals : Array (Nat × Value)} {d : DV} {σ σ' : Sto} (h : Runs (opBuildSlice tb t len parts) σ d σ') (hp : Parts G parts vals.toList) (I : Inv B0 G σ.c L σ.s w) (hB0 : B0 ≤ w.heap.size) (hL : σ'.c ≤ L) :
    ∃ v w' G', (Instr.buildSlice t len vals).run P w = .ok v w' ∧ Rep G' d v ∧ G.le G' ∧ Inv B0 G' σ'.c L σ'.s w' ∧ Below B0 w w' := by
  unfold opBuildSlice at h
  split at h
  · rename_i e zz sz bb hl
    split at h
    · exact (fail_inv h).elim
    · rename_i te hte
      obtain ⟨hb, h⟩ := cond_fail_inv h
      rw [Bool.and_eq_true] at hb
      obtain ⟨f1, f2, f3, f4⟩ := fine_inv hb.1
      have hsm := Nat.le_of_ble_eq_true hb.2
      split at h
      · exact (fail_inv h).elim
      · rename_i cs hf
        obtain ⟨n, σ1, h1, h2⟩ := h.split (ok_newRow _)
        obtain ⟨hone, rfl, hd, hc1, hs1⟩ := newRow_inv h1
        obtain ⟨rfl, rfl⟩ := pur_inv h2
        obtain ⟨dd, hd1, hd2, -⟩ := (hT t _ hl).desc
        have hd2 : dd = .slice e := hd2
        subst hd2
        obtain ⟨ie, z, hie, hies, -, hz, hzc⟩ := (hT _ _ hte).info
        have hcl := fill_length _ _ _ _ hf
        rw [zeros_length te f1] at hcl
        obtain ⟨vs', h3, h4⟩ := fill_run (G := G) _ parts _ _ _ vals.toList hf (zeros_rep te z.cells hzc f1 f2 len (len * ie.size) (by rw [hies])) hp
        obtain ⟨G', hI, hle, hG⟩ := I.row0 hB0 (by omega) hd h4 e
        refine ⟨.slice (some ⟨w.heap.size, 0, none⟩) len len, w.alloc (.cells vs'.toArray e), G', ?_, rep_fresh hG f2 (Nat.le_refl _) (by omega) (by omega), hle, by rw [hc1, hs1]; exact hI, (Below.refl _ _).alloc hB0 _⟩
        have hsmall : ¬ len * ie.size > 2 ^ 24 := by rw [hies]; omega
        by_cases hpos : len * ie.size = 0
        · have h5 : Instr.fill (fun i => some (i * ie.size, ie.size)) #[] vals.toList = some vs'.toArray := by
            rw [hpos] at h3
            rw [hies]
            simpa using h3
          simp [Instr.buildSlice, run_underlying hd1, sizeOf, typeInfo, zeroValue, hie, hz, hsmall, hpos, Array.range_zero', h5, Go.newRow]
        · refine run_buildSlice w t e len vals vs'.toArray ie z hd1 hie hz hsmall hpos ?_
          rw [hies] at h3 ⊢
          exact h3
  · exact (fail_inv h).elim
theorem op_makeSlice {tb : Tab} (hT : ∀ t ti, look tb.ty t = some ti → TyOk P t ti) {t : Nat} {dl dc d : DV} {vl vc : Value} {σ σ' : Sto} (h : Runs (opMakeSlice tb t dl dc) σ d σ') (hvl : Rep G dl vl) (hvc : Rep G dc vc) (I : Inv B0 G σ.c L σ.s w) (hB0 : B0 ≤ w.heap.size) (hL : σ'.c ≤ L) :
    ∃ v w' G', (Instr.makeSlice t vl vc).run P w = .ok v w' ∧ Rep G' d v ∧ G.le G' ∧ Inv B0 G' σ'.c L σ'.s w' ∧ Below B0 w w' := by
  unfold opMakeSlice at h
  split at h
  · rename_i e zz sz bb l c hl
    split at h
    · exact (fail_inv h).elim
    · rename_i te hte
      obtain ⟨hb, h⟩ := cond_fail_inv h
      simp only [Bool.and_eq_true] at hb
      obtain ⟨f1, f2, f3, f4⟩ := fine_inv hb.1.1
      have hsm := Nat.le_of_ble_eq_true hb.1.2
      have hlc := Nat.le_of_ble_eq_true hb.2
      rw [seqLD_eq] at h
      obtain ⟨n, σ1, h1, h2⟩ := h.split (ok_newRow _)
      obtain ⟨hone, rfl, hd, hc1, hs1⟩ := newRow_inv h1
      rw [seqN_eq] at h2
      obtain ⟨rfl, rfl⟩ := pur_inv h2
      obtain ⟨dd, hd1, hd2, -⟩ := (hT t _ hl).desc
      have hd2 : dd = .slice e := hd2
      subst hd2
      obtain ⟨ie, z, hie, hies, hieb, hz, hzc⟩ := (hT _ _ hte).info
      have hzr := zeros_rep (G := G) te z.cells hzc f1 f2 c (c * ie.size) (by rw [hies])
      obtain ⟨G', hI, hle, hG⟩ := I.row0 hB0 (by omega) hd hzr e
      rw [zeros_length te f1] at hG
      obtain rfl := rep_int hvl
      obtain rfl := rep_int hvc
      have hcc : ((Int.ofNat c).toNat) = c := rfl
      have hll : ((Int.ofNat l).toNat) = l := rfl
      have hrun := run_make (P := P) w t e ie z hd1 hie hz .i64 .i64 (.ofNat l) (.ofNat c) (by simp) (by simpa using hlc) (by
        rw [hieb]
        have : ((te.bytes * c : Nat) : Int) ≤ 281474976710656 := by
          have : te.bytes * c ≤ 1024 * 100000 := Nat.mul_le_mul f4 hsm
          omega
        simpa using this) (by simp; omega)
      rw [hcc, hll] at hrun
      refine ⟨_, _, G', hrun, rep_fresh hG f2 hlc (Nat.mul_le_mul_right _ hlc) rfl, hle, by rw [hc1, hs1]; exact hI, (Below.refl _ _).alloc hB0 _⟩
  · exact (fail_inv h).elim
end Go.E
end
section
namespace Go.E
open Go Go.RowKit
variable {P : Program} {B0 L : Nat} {G : Gh} {w : World}
theorem source_inv {tb : Tab} (hT : ∀ t ti, look tb.ty t = some ti → TyOk P t ti) {t' sz : Nat} {x d : DV} {k : Nat → List DV → M DV} {σ σ' : Sto} (h : Runs (source tb t' sz x k) σ d σ') :
    ∃ lx xs σ1, σ1.c = σ.c ∧ σ1.s = σ.s ∧ Runs (k lx xs) σ1 d σ' ∧ xs.length = lx * sz ∧
      ∀ (G : Gh) (w : World) (vx : Value), Rep G x vx → Inv B0 G σ.c L σ.s w → ∃ news, Reps G xs news ∧ ((∀ u ∈ news, u.oneCell' = true) → Src P sz t' vx lx news w) ∧ (∀ w', (Builtin.lenOf vx).run P w' = .ok lx w') ∧ ∀ l, l ≤ lx → (Builtin.firstCells sz l vx).run P w = .ok (news.take (l * sz)).toArray w := by
  unfold source at h
  split at h
  · rename_i e z s b hl
    refine ⟨0, [], σ, rfl, rfl, h, by simp, fun G w vx hx I => ?_⟩
    obtain ⟨dd, hd1, hd2, -⟩ := (hT t' _ hl).desc
    have hd2 : dd = .slice e := hd2
    subst hd2
    rw [Rep] at hx
    subst hx
    exact ⟨[], Reps.nil, fun _ => Src.ofNil w hd1 0, fun _ => rfl, fun l hl => by simp [run_firstCells_none]⟩
  · rename_i el z s b n e i sz' len lim hl
    obtain ⟨hb, h⟩ := cond_fail_inv h
    obtain rfl := Nat.eq_of_beq_eq_true hb
    obtain ⟨cs, σ1, h1, h2⟩ := h.split (ok_loadC _ _ _ _)
    obtain ⟨e', m, fz, row, hrow, hm, he, hlen, rfl, hc1, hs1⟩ := loadC_inv h1
    have hlen : i * sz' + len * sz' ≤ row.length := hlen
    have hxl : ((row.drop (Nat.mul i sz')).take (Nat.mul len sz')).length = len * sz' := by
      rw [List.length_take, List.length_drop]
      show min (len * sz') (row.length - i * sz') = _
      omega
    refine ⟨len, _, σ1, hc1, hs1, h2, hxl, fun G w vx hx I => ?_⟩
    obtain ⟨dd, hd1, hd2, -⟩ := (hT t' _ hl).desc
    have hd2 : dd = .slice el := hd2
    subst hd2
    rw [Rep] at hx
    obtain ⟨B, a, c, hB, rfl, hsz, hlc, hsh, hext, ha, hcap, -, -⟩ := hx
    rw [Nat.add_mul] at hext
    obtain ⟨vs, hvs, hvl, hran⟩ := I.load hrow hm he hB (o := i * sz') (k := len * sz') hsh hext
    have hat : ∀ j u, vs[j]? = some u → w.cell? (a.add j) = some u := fun j u hj => by
      rcases ha with ha | ha
      · obtain rfl : len = 0 := by omega
        have : j < vs.length := by
          rcases Nat.lt_or_ge j vs.length with h | h
          · exact h
          · rw [List.getElem?_eq_none h] at hj; cases hj
        omega
      · rw [ha, Addr.add_mid]; exact hran j u hj
    refine ⟨vs, hvs, fun h1 => Src.ofSlice w hd1 a len c vs hvl hat h1, fun _ => rfl, fun l hl => run_firstCells_some w sz' l a len c _ ?_ fun j u hj => ?_⟩
    · rw [List.length_take, hvl]; exact Nat.min_eq_left (Nat.mul_le_mul_right _ hl)
    · rw [List.getElem?_take] at hj
      split at hj
      · exact hat j u hj
      · cases hj
  · rename_i z s b st hl
    obtain ⟨hb, h⟩ := cond_fail_inv h
    obtain rfl := Nat.eq_of_beq_eq_true hb
    rw [mapR_eq, lenR_eq] at h
    refine ⟨st.length, _, σ, rfl, rfl, h, by simp, fun G w vx hx I => ?_⟩
    obtain ⟨dd, hd1, hd2, -⟩ := (hT t' _ hl).desc
    have hd2 : dd = .string := hd2
    subst hd2
    rw [Rep] at hx
    obtain ⟨bs, rfl, hbs⟩ := hx
    have hsz := bytes_size hbs
    refine ⟨byteCells bs, ?_, fun _ => by rw [← hsz]; exact Src.ofString w hd1 bs, fun w' => by simp [Builtin.lenOf, hsz], fun l hl => ?_⟩
    rotate_left
    · simp only [Builtin.firstCells, Sem.run_pure, Nat.mul_one]
      congr 1
      apply Array.ext'
      simp [byteCells, ByteArray.data_extract, Array.toList_extract, List.extract_eq_take_drop, List.map_take]
    unfold byteCells
    rw [← hbs, List.map_map]
    generalize bs.data.toList = l
    induction l with
    | nil => exact Reps.nil
    | cons u r ih => exact Reps.cons (by show Rep G (.int .u8 (.ofNat u.toNat)) _; rw [Rep]; rfl) ih
  · exact (fail_inv h).elim
theorem ok_ones {G : Gh} {xs : List DV} {news : List Value} (h : Reps G xs news) (h1 : ∀ d ∈ xs, one d = true) : ∀ u ∈ news, u.oneCell' = true := by
  intro u hu
  obtain ⟨j, hj, hj2⟩ := List.getElem_of_mem hu
  have hl := h.length
  have h3 : xs[j]? = some xs[j] := List.getElem?_eq_getElem (by omega)
  obtain ⟨v, h4, h5⟩ := h.get h3
  rw [List.getElem?_eq_getElem hj, hj2] at h4
  cases h4
  exact h5.one (h1 _ (List.getElem_mem _))
theorem run_append_zero {t tx ty e : TypeId} {i : TypeInfo} {x : Value} {news : List Value} (ht : P.underlying t = some (.slice e)) (hi : P.info? e = some i) {base : Option Addr} {sLen sCap : Nat} (hc : sLen ≤ sCap) (hs : Src P i.size tx x 0 news w) :
    (Builtin.append_ #[t, tx] ty #[.slice base sLen sCap, x]).run P w = .ok (.slice base sLen sCap) w := by
  obtain rfl : news = [] := List.eq_nil_of_length_eq_zero (by have := hs.newsLen; omega)
  have hcells := hs.cells
  cases base with
  | none => rcases hs.kind with ⟨e', hk⟩ | hk <;> simp [Builtin.append_, run_underlying ht, run_underlying hk, sizeOf, typeInfo, hi, hs.len, hc, hcells]
  | some a => rcases hs.kind with ⟨e', hk⟩ | hk <;> simp [Builtin.append_, run_underlying ht, run_underlying hk, sizeOf, typeInfo, hi, hs.len, hc, hcells, storeCells]
theorem growBy_le (n : Nat) : ∀ r c, Builtin.growBy n r c ≤ (c + 768) * 2 ^ r
  | 0, c => by simp [Builtin.growBy]
  | r + 1, c => by
    unfold Builtin.growBy
    have hp : 1 ≤ 2 ^ r := Nat.one_le_two_pow
    split
    · rw [Nat.pow_succ]
      have : (c + 768) * 1 ≤ (c + 768) * (2 ^ r * 2) := Nat.mul_le_mul_left _ (by omega)
      omega
    · refine Nat.le_trans (growBy_le n r _) ?_
      rw [Nat.pow_succ, Nat.mul_comm (2 ^ r) 2, ← Nat.mul_assoc]
      exact Nat.mul_le_mul_right _ (by omega)
theorem nextslicecap_le {need c : Nat} (h : need ≤ 100000) (hc : c < need) : Builtin.nextslicecap need c ≤ 2000000 := by
  unfold Builtin.nextslicecap
  split
  · omega
  · split
    · omega
    · have := growBy_le need 4 c
      have h2 : (c + 768) * 2 ^ 4 ≤ 100768 * 16 := Nat.mul_le_mul (by omega) (by decide)
      exact Nat.le_trans this (Nat.le_trans h2 (by decide))
theorem run_append_new {t tx ty e : TypeId} {te : TI} {x : Value} {news olds : List Value} (ht : P.underlying t = some (.slice e)) (he : TyOk P e te) (hf : fine te = true) {base : Option Addr} {sLen sCap n : Nat} (hs : Src P te.size tx x n news w)
    (hold : (Builtin.firstCells te.size sLen (.slice base sLen sCap)).run P w.drew = .ok olds.toArray w.drew) (hol : olds.length = sLen * te.size) (hg : sCap < sLen + n) (hn : sLen + n ≤ 100000) :
    ∃ c more, (Builtin.append_ #[t, tx] ty #[.slice base sLen sCap, x]).run P w = .ok (.slice (some ⟨w.heap.size, 0, none⟩) (sLen + n) c) (w.drew.alloc (.cells (olds ++ news ++ more).toArray e)) ∧ sLen + n ≤ c ∧ (olds ++ news ++ more).length = c * te.size := by
  obtain ⟨f1, f2, f3, f4⟩ := fine_inv hf
  obtain ⟨ie, z, hie, hies, hieb, hz, hzc⟩ := he.info
  rw [← hies] at hs hold
  have hcge := grownCap_ge w (sLen + n) sCap e
  have hfit : Builtin.nextslicecap (sLen + n) sCap * ie.bytes ≤ 281474976710656 := by
    rw [hieb]
    have := Nat.mul_le_mul (nextslicecap_le hn hg) f4
    omega
  have := run_append_grow_src (P := P) w t tx ty e ie z ht hie hz base sLen sCap olds hold x n news hs hg (by omega) hfit
  refine ⟨grownCap w (sLen + n) sCap e, (Builtin.zeroCells z.cells (grownCap w (sLen + n) sCap e - (sLen + n))).toList, ?_, hcge, ?_⟩
  · rw [this]
    congr 3
    apply Array.ext'
    simp
  · have hzs : z.cells.size = te.size := by rw [← f1, ← hzc]; simp
    have h2 := hs.newsLen
    rw [hies] at h2
    rw [List.length_append, List.length_append, hol, h2, Array.length_toList, size_zeroCells, hzs, ← Nat.add_mul, ← Nat.add_mul]
    congr 1
    omega
theorem drew_inv {c L : Nat} {s : Tm} (I : Inv B0 G c L s w) : Inv B0 G c L s w.drew := I.drew _
theorem append_fresh {c L : Nat} {s : Tm} {t tx ty e : TypeId} {te : TI} {x : Value} {xs os : List DV} {news olds : List Value} (I : Inv B0 G c L s w) (hB0 : B0 ≤ w.heap.size) (hL : c < L) (hd : c + 1 < 2 ^ depth) (ht : P.underlying t = some (.slice e)) (he : TyOk P e te) (hf : fine te = true) {base : Option Addr} {sLen sCap n : Nat} (hs : Src P te.size tx x n news w)
    (hold : (Builtin.firstCells te.size sLen (.slice base sLen sCap)).run P w.drew = .ok olds.toArray w.drew) (hor : Reps G os olds) (hnr : Reps G xs news) (hol : os.length = sLen * te.size) (hg : sCap < sLen + n) (hn : sLen + n ≤ 100000) :
    ∃ v w' G', (Builtin.append_ #[t, tx] ty #[.slice base sLen sCap, x]).run P w = .ok v w' ∧ Rep G' (.sl c 0 0 te.size (sLen + n) none) v ∧ G.le G' ∧ Inv B0 G' (c + 1) L (s.put (.row 0 0 0 (os ++ xs)) c) w' ∧ Below B0 w w' := by
  obtain ⟨f1, f2, f3, f4⟩ := fine_inv hf
  obtain ⟨cc, more, hrun, hcc, hlen⟩ := run_append_new (w := w) (ty := ty) ht he hf hs hold (by rw [hor.length, hol]) hg hn
  obtain ⟨hI, hle⟩ := (drew_inv I).alloc hB0 hL hd (hor.append hnr) (more := more) e
  have hnl := hs.newsLen
  have hxl := hnr.length
  refine ⟨_, _, _, hrun, rep_fresh (Gh.put_same _ _ _ _) f2 hcc ?_ hlen.symm, hle, hI, ?_⟩
  · rw [List.length_append, hol, ← hxl, hnl, Nat.add_mul]; exact Nat.le_refl _
  · exact ((Below.refl _ _).drew).alloc (by exact hB0) _
theorem op_append {tb : Tab} (hT : ∀ t ti, look tb.ty t = some ti → TyOk P t ti) {t t' ty : Nat} {ds dx d : DV} {vs vx : Value} {σ σ' : Sto} (h : Runs (opAppend tb t t' ds dx) σ d σ') (hvs : Rep G ds vs) (hvx : Rep G dx vx) (I : Inv B0 G σ.c L σ.s w) (hB0 : B0 ≤ w.heap.size) (hL : σ'.c ≤ L) :
    ∃ v w' G', (Builtin.append_ #[t, t'] ty #[vs, vx]).run P w = .ok v w' ∧ Rep G' d v ∧ G.le G' ∧ Inv B0 G' σ'.c L σ'.s w' ∧ Below B0 w w' := by
  unfold opAppend at h
  split at h
  · rename_i el z s b hl
    split at h
    · exact (fail_inv h).elim
    · rename_i te hte
      obtain ⟨hf, h⟩ := cond_fail_inv h
      obtain ⟨f1, f2, f3, f4⟩ := fine_inv hf
      obtain ⟨lx, xs, σ1, hc1, hs1, h, hxl, hsrc⟩ := source_inv (B0 := B0) (L := L) hT h
      obtain ⟨news, hnr, hsrc, -⟩ := hsrc G w vx hvx I
      have hnl := hnr.length
      obtain ⟨dd, hd1, hd2, -⟩ := (hT t _ hl).desc
      have hd2 : dd = .slice el := hd2
      subst hd2
      obtain ⟨ie, zv, hie, hies, hieb, hz, hzc⟩ := (hT _ _ hte).info
      split at h
      · -- nil
        rw [Rep] at hvs
        subst hvs
        rcases cond_inv h with ⟨hb, h⟩ | ⟨hb, h⟩
        · obtain rfl := Nat.eq_of_beq_eq_true hb
          obtain ⟨rfl, rfl⟩ := pur_inv h
          have hs0 : Src P ie.size t' vx 0 news w := by rw [hies]; exact hsrc (by
            intro u hu
            have : news = [] := List.eq_nil_of_length_eq_zero (by omega)
            subst this; cases hu)
          exact ⟨_, w, G, run_append_zero hd1 hie (Nat.le_refl _) hs0, by rw [Rep], .refl G, by rw [hc1, hs1]; exact I, .refl _ _⟩
        · obtain ⟨hb2, h⟩ := cond_fail_inv h
          rw [seqN_eq] at h
          obtain ⟨n, σ2, h1, h2⟩ := h.split (ok_newRow _)
          obtain ⟨hone, rfl, hd, hc2, hs2⟩ := newRow_inv h1
          obtain ⟨rfl, rfl⟩ := pur_inv h2
          have hpos : 0 < lx := by
            rcases Nat.eq_zero_or_pos lx with h | h
            · subst h; cases hb
            · exact h
          have hb2 := Nat.le_of_ble_eq_true hb2
          have := append_fresh (ty := ty) (os := []) (olds := []) I hB0 (by rw [← hc1]; omega) (by rw [← hc1]; exact hd) hd1 (hT _ _ hte) hf (base := none) (sLen := 0) (sCap := 0) (hsrc (ok_ones hnr hone)) (run_firstCells_none _ _ _ _ _) Reps.nil hnr (by simp) (by omega) (by omega)
          rw [hc2, hs2, hc1, hs1]
          simpa using this
      · rename_i n e i sz len lim _ _
        obtain ⟨hb, h⟩ := cond_fail_inv h
        obtain rfl := Nat.eq_of_beq_eq_true hb
        rw [Rep] at hvs
        obtain ⟨B, a, c, hB, rfl, hsz, hlc, hsh, hext, ha, hcap, hlim1, hlim2⟩ := hvs
        rcases cond_inv h with ⟨hb, h⟩ | ⟨hb, h⟩
        · obtain rfl := Nat.eq_of_beq_eq_true hb
          obtain ⟨rfl, rfl⟩ := pur_inv h
          have hs0 : Src P ie.size t' vx 0 news w := by rw [hies]; exact hsrc (by
            intro u hu
            have : news = [] := List.eq_nil_of_length_eq_zero (by omega)
            subst this; cases hu)
          refine ⟨_, w, G, run_append_zero hd1 hie hlc hs0, ?_, .refl G, by rw [hc1, hs1]; exact I, .refl _ _⟩
          rw [Rep]
          exact ⟨B, a, c, hB, rfl, hsz, hlc, hsh, hext, ha, hcap, hlim1, hlim2⟩
        · have hpos : 0 < lx := by
            rcases Nat.eq_zero_or_pos lx with h | h
            · subst h; cases hb
            · exact h
          -- in place
          have inPlace : ∀ {σ2 : Sto} {u : Unit}, len + lx ≤ c → Runs (storeC n e (Nat.mul (Nat.add i len) te.size) xs) σ1 u σ2 → ∃ w', (Builtin.append_ #[t, t'] ty #[.slice (some a) len c, vx]).run P w = .ok (.slice (some a) (len + lx) c) w' ∧ Inv B0 G σ2.c L σ2.s w' ∧ Below B0 w w' ∧ (i + len) * te.size + lx * te.size ≤ B.ext := by
            intro σ2 u hroom hst
            obtain ⟨m, fz, row, hrow, hone, hlen, hd, hc2, hs2⟩ := storeC_inv hst
            have hlen : (i + len) * te.size + xs.length ≤ row.length := hlen
            rw [hs1] at hrow
            have ha' : a = ⟨B.b, i * te.size - B.sh, none⟩ := ha.resolve_left (by omega)
            subst ha'
            have hsh2 : B.sh ≤ (i + len) * te.size := Nat.le_trans hsh (Nat.mul_le_mul_right _ (by omega))
            obtain ⟨hI, hth⟩ := I.store hrow hB (o := (i + len) * te.size) hnr hsh2 hlen hd
            have heq : i * te.size - B.sh + len * te.size = (i + len) * te.size - B.sh := by rw [Nat.add_mul] at hsh2 ⊢; omega
            have hsrc1 := hsrc (ok_ones hnr hone)
            rw [← hies] at hsrc1
            have hrun := run_append_room_src (P := P) w t t' ty el ie hd1 hie B.b (i * te.size - B.sh) len c vx lx news hsrc1 hroom (fun j hj => by rw [hies, heq]; exact (hth j hj).1) (fun j hj => by rw [hies, heq]; exact (hth j hj).2)
            rw [hies, heq] at hrun
            obtain ⟨B', hB', b1, b2, b3, -⟩ := I.cur hrow
            rw [hB] at hB'; cases hB'
            refine ⟨_, hrun, by rw [hc2, hs2, hc1, hs1]; exact hI, setCells_below (I.known _ _ _ hB).1 _ _ _ (.refl _ _), by omega⟩
          have repIn : ∀ lim', (lim' = none → i * te.size - B.sh + c * te.size = B.cap) → (∀ x, lim' = some x → c = x) → len + lx ≤ c → (i + len) * te.size + lx * te.size ≤ B.ext → Rep G (.sl n e i te.size (len + lx) lim') (.slice (some a) (len + lx) c) := by
            intro lim' h1 h2 h3 h4
            rw [Rep]
            refine ⟨B, a, c, hB, rfl, hsz, h3, hsh, ?_, ha, hcap, h1, h2⟩
            rw [show i + (len + lx) = (i + len) + lx by omega, Nat.add_mul]; exact h4
          cases lim with
          | some c' =>
            obtain rfl := hlim2 c' rfl
            rcases cond_inv h with ⟨hb2, h⟩ | ⟨hb2, h⟩
            · have hb2 : len + lx ≤ c := Nat.le_of_ble_eq_true hb2
              obtain ⟨u, σ2, h1, h2⟩ := h.split (ok_storeC _ _ _ _)
              rw [seqN_eq] at h2
              obtain ⟨rfl, rfl⟩ := pur_inv h2
              obtain ⟨w', r1, r2, r3, r4⟩ := inPlace hb2 h1
              exact ⟨_, w', G, r1, repIn _ (fun h => by cases h) (fun x hx => by cases hx; rfl) hb2 r4, .refl G, r2, r3⟩
            · have hb2 : ¬ (len + lx ≤ c) := fun hh => by
                have : Nat.ble (Nat.add len lx) c = true := Nat.ble_eq_true_of_le hh
                rw [this] at hb2; cases hb2
              obtain ⟨hb3, h⟩ := cond_fail_inv h
              have hb3 : len + lx ≤ 100000 := Nat.le_of_ble_eq_true hb3
              obtain ⟨olds, σ2, h1, h2⟩ := h.split (ok_loadC _ _ _ _)
              obtain ⟨e', m, fz, row, hrow, hm, he, hlen, rfl, hc2, hs2⟩ := loadC_inv h1
              have hlen : i * te.size + len * te.size ≤ row.length := hlen
              rw [appR_eq] at h2
              obtain ⟨n', σ3, h3, h4⟩ := h2.split (ok_newRow _)
              obtain ⟨hone, rfl, hd, hc3, hs3⟩ := newRow_inv h3
              rw [seqN_eq] at h4
              obtain ⟨rfl, rfl⟩ := pur_inv h4
              rw [hs1] at hrow
              rw [Nat.add_mul] at hext
              obtain ⟨vs, hvs, hvl, hran⟩ := I.load hrow hm he hB (o := i * te.size) (k := len * te.size) hsh hext
              have hfc : (Builtin.firstCells te.size len (.slice (some a) len c)).run P w.drew = .ok vs.toArray w.drew := run_firstCells_some w.drew te.size len a len c vs hvl fun j u hj => by
                rcases ha with ha | ha
                · exfalso
                  obtain rfl : len = 0 := by omega
                  have : vs = [] := List.eq_nil_of_length_eq_zero (by omega)
                  subst this; cases hj
                · rw [ha, Addr.add_mid]; exact hran j u hj
              have hol : ((row.drop (i * te.size)).take (len * te.size)).length = len * te.size := by rw [List.length_take, List.length_drop]; omega
              have hone2 : ∀ d ∈ xs, one d = true := fun d hd => hone d (List.mem_append.2 (.inr hd))
              have := append_fresh (ty := ty) I hB0 (by rw [← hc1, ← hc2]; omega) (by rw [← hc1, ← hc2]; exact hd) hd1 (hT _ _ hte) hf (base := some a) (sLen := len) (sCap := c) (hsrc (ok_ones hnr hone2)) hfc hvs hnr hol (by omega) hb3
              rw [hc3, hs3, hc2, hs2, hc1, hs1]
              exact this
          | none =>
            have h : Runs (grow n e i te.size len lx xs) σ1 d σ' := h
            unfold grow at h
            obtain ⟨r, σ2, h1, h2⟩ := h.split (Ok.rd n)
            obtain ⟨rfl, hc2, hs2⟩ := rd_inv h1
            split at h2
            · rename_i e' m fz cs hrow
              rw [hs1] at hrow
              rcases cond_inv h2 with ⟨hb2, h⟩ | ⟨hb2, h⟩
              · simp only [Bool.and_eq_true] at hb2
                obtain rfl := Nat.eq_of_beq_eq_true hb2.1.1.1
                have hend : (i + len) * te.size = cs.length := by rw [← lenR_eq]; exact Nat.eq_of_beq_eq_true hb2.1.1.2
                have hone := ones_all hb2.1.2
                have hmax : len + lx ≤ 100000 := Nat.le_of_ble_eq_true hb2.2
                simp only [seqN_eq, appR_eq] at h
                obtain ⟨u, σ3, h3, h4⟩ := h.split (Ok.wr _ _)
                obtain ⟨hd, hc3, hs3⟩ := wr_inv h3
                obtain ⟨rfl, rfl⟩ := pur_inv h4
                have hsrc1 := hsrc (ok_ones hnr hone)
                have hfz : Nat.mul (Nat.add i len) te.size = cs.length := hend
                rw [hc3, hs3, hc2, hs2, hc1, hs1, hfz]
                by_cases hroom : len + lx ≤ c
                · have ha' : a = ⟨B.b, i * te.size - B.sh, none⟩ := ha.resolve_left (by omega)
                  subst ha'
                  have hl1 := hlim1 rfl
                  have hcs : (len + lx) * te.size ≤ c * te.size := Nat.mul_le_mul_right _ hroom
                  have hend' := hend
                  rw [Nat.add_mul] at hcs hend'
                  obtain ⟨hI, hle, hth⟩ := I.growIn hrow hB hnr (by omega) hd
                  have heq : i * te.size - B.sh + len * te.size = cs.length - B.sh := by omega
                  rw [← hies] at hsrc1
                  have hrun := run_append_room_src (P := P) w t t' ty el ie hd1 hie B.b (i * te.size - B.sh) len c vx lx news hsrc1 hroom (fun j hj => by rw [hies, heq]; exact (hth j hj).1) (fun j hj => by rw [hies, heq]; exact (hth j hj).2)
                  rw [hies, heq] at hrun
                  refine ⟨_, _, _, hrun, ?_, hle, hI, setCells_below (I.known _ _ _ hB).1 _ _ _ (.refl _ _)⟩
                  rw [Rep]
                  refine ⟨_, _, c, Gh.put_same _ _ _ _, rfl, hsz, hroom, hsh, ?_, .inr rfl, hcap, fun _ => hl1, fun x hx => by cases hx⟩
                  show (i + (len + lx)) * te.size ≤ cs.length + xs.length
                  rw [← Nat.add_assoc, Nat.add_mul, hend, hxl]; exact Nat.le_refl _
                · have hext' := hext
                  rw [Nat.add_mul] at hext'
                  obtain ⟨B', hB', b1, b2, b3, -⟩ := I.cur hrow
                  rw [hB] at hB'; cases hB'
                  obtain ⟨hm, hfzl, -⟩ := I.row n e m fz cs hrow
                  obtain ⟨vs, hvs, hvl, hran⟩ := I.load hrow hm (Nat.le_refl _) hB (o := i * te.size) (k := len * te.size) hsh hext'
                  have hall : (cs.drop (i * te.size)).take (len * te.size) = cs.drop (i * te.size) := by
                    apply List.take_of_length_le
                    rw [List.length_drop, ← hend, Nat.add_mul]; omega
                  rw [hall] at hvs
                  have hfc : (Builtin.firstCells te.size len (.slice (some a) len c)).run P w.drew = .ok vs.toArray w.drew := run_firstCells_some w.drew te.size len a len c vs hvl fun j u hj => by
                    rcases ha with ha | ha
                    · exfalso
                      obtain rfl : len = 0 := by omega
                      have : vs = [] := List.eq_nil_of_length_eq_zero (by omega)
                      subst this; cases hj
                    · rw [ha, Addr.add_mid]; exact hran j u hj
                  obtain ⟨cc, more, hrun, hcc, hlen⟩ := run_append_new (w := w) (ty := ty) hd1 (hT _ _ hte) hf hsrc1 hfc hvl (by omega) hmax
                  have hq : i * te.size ≤ cs.length := by rw [← hend, Nat.add_mul]; omega
                  obtain ⟨hI, hle⟩ := (drew_inv I).growNew hB0 hrow hq hvs hnr (more := more) el hd
                  refine ⟨_, _, _, hrun, ?_, hle, hI, ((Below.refl _ _).drew).alloc (by exact hB0) _⟩
                  rw [Rep]
                  refine ⟨_, _, cc, Gh.put_same _ _ _ _, rfl, hsz, hcc, Nat.le_refl _, ?_, .inr ?_, ?_, fun _ => ?_, fun x hx => by cases hx⟩
                  · show (i + (len + lx)) * te.size ≤ cs.length + xs.length
                    rw [← Nat.add_assoc, Nat.add_mul, hend, hxl]; exact Nat.le_refl _
                  · simp
                  · simp only [Nat.sub_self, Nat.zero_add]; rw [hlen]; exact Nat.le_refl _
                  · simp only [Nat.sub_self, Nat.zero_add]; rw [hlen]
              · obtain ⟨hb3, h⟩ := cond_fail_inv h
                rw [least_eq, decide_eq_true_eq] at hb3
                have hb3 : (i + len + lx) * te.size ≤ cs.length := hb3
                obtain ⟨u, σ3, h3, h4⟩ := h.split (ok_storeC _ _ _ _)
                rw [seqN_eq] at h4
                obtain ⟨rfl, rfl⟩ := pur_inv h4
                have h3' : Runs (storeC n e (Nat.mul (Nat.add i len) te.size) xs) σ2 u σ' := h3
                obtain ⟨m', fz', row', hrow', -⟩ := storeC_inv h3'
                rw [hs2, hs1, hrow] at hrow'
                cases hrow'
                obtain ⟨B', hB', b1, b2, b3, -⟩ := I.cur hrow
                rw [hB] at hB'; cases hB'
                have hl1 := hlim1 rfl
                have hroom : len + lx ≤ c := by
                  have h5 : (len + lx) * te.size ≤ c * te.size := by
                    rw [Nat.add_assoc, Nat.add_mul] at hb3
                    omega
                  exact Nat.le_of_mul_le_mul_right h5 (by omega)
                have inPlace2 : ∃ w', (Builtin.append_ #[t, t'] ty #[.slice (some a) len c, vx]).run P w = .ok (.slice (some a) (len + lx) c) w' ∧ Inv B0 G σ'.c L σ'.s w' ∧ Below B0 w w' ∧ (i + len) * te.size + lx * te.size ≤ B.ext := by
                  obtain ⟨m2, fz2, row2, q1, q2, q3, q4, q5, q6⟩ := storeC_inv h3'
                  have q3 : (i + len) * te.size + xs.length ≤ row2.length := q3
                  rw [hs2, hs1] at q1
                  have ha' : a = ⟨B.b, i * te.size - B.sh, none⟩ := ha.resolve_left (by omega)
                  subst ha'
                  have hsh2 : B.sh ≤ (i + len) * te.size := Nat.le_trans hsh (Nat.mul_le_mul_right _ (by omega))
                  obtain ⟨hI, hth⟩ := I.store q1 hB (o := (i + len) * te.size) hnr hsh2 q3 q4
                  have heq : i * te.size - B.sh + len * te.size = (i + len) * te.size - B.sh := by rw [Nat.add_mul] at hsh2 ⊢; omega
                  have hsrc1 := hsrc (ok_ones hnr q2)
                  rw [← hies] at hsrc1
                  have hrun := run_append_room_src (P := P) w t t' ty el ie hd1 hie B.b (i * te.size - B.sh) len c vx lx news hsrc1 hroom (fun j hj => by rw [hies, heq]; exact (hth j hj).1) (fun j hj => by rw [hies, heq]; exact (hth j hj).2)
                  rw [hies, heq] at hrun
                  refine ⟨_, hrun, by rw [q5, q6, hc2, hs2, hc1, hs1]; exact hI, setCells_below (I.known _ _ _ hB).1 _ _ _ (.refl _ _), by rw [Nat.add_mul] at hb3; omega⟩
                obtain ⟨w', r1, r2, r3, r4⟩ := inPlace2
                exact ⟨_, w', G, r1, repIn _ (fun _ => hl1) (fun x hx => by cases hx) hroom r4, .refl G, r2, r3⟩
            · exact (fail_inv h2).elim
      · exact (fail_inv h).elim
  · exact (fail_inv h).elim
end Go.E
end
section
namespace Go.E
open Go Go.RowKit
variable {P : Program} {B0 : Nat} {G : Gh} {w : World}
structure EqOk (P : Program) (t : TypeId) : Prop where
  struct : ∃ fields, P.underlying t = some (.struct fields)
  held : P.stoodInHeld t = false
  guard : P.eqGuardType P.depth t = false
  names : ∀ fields, P.underlying t = some (.struct fields) → ∀ f ∈ fields.toList, f.name ≠ "_"
def Shape (ti : TI) (cs : List Value) (v : Value) : Prop := (isAgg ti.td = true ∧ v = .agg cs.toArray) ∨ (isAgg ti.td = false ∧ cs = [v])
theorem run_part' {t : TypeId} {ti : TI} (h : TyOk P t ti) {xs : List Value} {o : Nat} (hl : o + ti.size ≤ xs.length) {v : Value} (hs : Shape ti ((xs.drop o).take ti.size) v) : (part t xs.toArray o).run P w = .ok v w := by
  obtain ⟨dd, hd1, hd2, hd3⟩ := h.desc
  have a5 := run_sizeOf' h w
  have hagg : (Go.isAgg t).run P w = .ok (isAgg ti.td) w := by
    unfold Go.isAgg
    rw [Sem.run_bind, run_underlying hd1 w, ← hd3]
    cases dd <;> rfl
  rcases hs with ⟨h3, rfl⟩ | ⟨h3, hv⟩
  · have hex : xs.toArray.extract o (o + ti.size) = ((xs.drop o).take ti.size).toArray := by
      apply Array.ext'
      simp [Array.toList_extract, List.extract_eq_take_drop]
    simp [part, hagg, h3, a5, hex]
  · have hv0 : xs[o]? = some v := by
      have : ((xs.drop o).take ti.size)[0]? = some v := by rw [hv]; rfl
      rw [List.getElem?_take] at this
      split at this
      · rw [List.getElem?_drop] at this; simpa using this
      · cases this
    simp [part, hagg, h3, hv0]
theorem shape_exists {ti : TI} {cs : List Value} (h : isAgg ti.td = false → cs.length = 1) : ∃ v, Shape ti cs v := by
  cases hi : isAgg ti.td with
  | true => exact ⟨_, .inl ⟨hi, rfl⟩⟩
  | false =>
    have := h hi
    obtain ⟨v, rfl⟩ := List.length_eq_one_iff.1 this
    exact ⟨v, .inr ⟨hi, rfl⟩⟩
theorem eqT_run {tb : Tab} (hT : ∀ t ti, look tb.ty t = some ti → TyOk P t ti) (hE : ∀ t, has tb.eq t = true → EqOk P t) : ∀ (n t : Nat) (a b : List DV) (r : Bool) (ti : TI) (xs ys : List Value) (vx vy : Value), eqT tb n t a b = some r → look tb.ty t = some ti → Reps G a xs → Reps G b ys → Shape ti xs vx → Shape ti ys vy →
    ∀ d, n ≤ d → (Op.equalIn d t vx vy).run P w = .ok r w
  | 0, t, a, b, r, ti, xs, ys, vx, vy, h, hl, ha, hb, hx, hy, d, hd => by cases h
  | n + 1, t, a, b, r, ti, xs, ys, vx, vy, h, hl, ha, hb, hx, hy, d, hd => by
    obtain ⟨d, rfl⟩ : ∃ k, d = k + 1 := ⟨d - 1, by omega⟩
    obtain ⟨dd, hd1, hd2, hd3⟩ := (hT t ti hl).desc
    have one1 : ∀ {da : DV} {va : Value} {us : List Value}, isAgg ti.td = false → Reps G [da] us → Shape ti us va → Rep G da va := by
      intro da va us hi hr hs
      rcases hs with ⟨h1, -⟩ | ⟨-, rfl⟩
      · rw [hi] at h1; cases h1
      · obtain ⟨v, r', h1, h2, h3⟩ := Reps.cons_iff.1 hr
        cases h1; exact h2
    unfold eqT at h
    simp only [hl] at h
    split at h
    · rename_i k k1 x k2 y htd
      rw [htd] at hd2 one1
      have hd2 : dd = .int k := hd2
      subst hd2
      cases he : eqK k1 k2 with
      | false => rw [he] at h; cases h
      | true =>
        rw [he] at h
        obtain rfl := eqK_eq he
        have h : some (eqZ x y) = some r := h
        cases h
        obtain rfl := rep_int (one1 rfl ha hx)
        obtain rfl := rep_int (one1 rfl hb hy)
        rw [eqZ_eq]
        exact run_equalIn_int w d t k1 k x y hd1
    · rename_i x y htd
      rw [htd] at hd2 one1
      have hd2 : dd = .bool := hd2
      subst hd2
      cases h
      obtain rfl := rep_bool (one1 rfl ha hx)
      obtain rfl := rep_bool (one1 rfl hb hy)
      rw [run_equalIn_bool' w d t x y hd1]
      cases x <;> cases y <;> rfl
    · rename_i x y htd
      rw [htd] at hd2 one1
      have hd2 : dd = .string := hd2
      subst hd2
      cases h
      have h1 := one1 rfl ha hx
      have h2 := one1 rfl hb hy
      rw [Rep] at h1 h2
      obtain ⟨sx, rfl, h1⟩ := h1
      obtain ⟨sy, rfl, h2⟩ := h2
      rw [run_equalIn_string w d t sx sy hd1, strs_eq h1 h2]
    · rename_i a b _ a2 b2 fs htd
      have hia : isAgg ti.td = true := by rw [htd]; rfl
      rw [htd] at hd2
      obtain ⟨fields, rfl, hfs⟩ := hd2
      cases hq : has tb.eq t with
      | false => rw [hq] at h; cases h
      | true =>
        rw [hq] at h
        have hEt := hE t hq
        have hx' : vx = .agg xs.toArray := by
          rcases hx with ⟨-, h⟩ | ⟨h, -⟩
          · exact h
          · rw [hia] at h; cases h
        have hy' : vy = .agg ys.toArray := by
          rcases hy with ⟨-, h⟩ | ⟨h, -⟩
          · exact h
          · rw [hia] at h; cases h
        subst hx' hy'
        have hfo : P.fieldsOf t = fields := by unfold Program.fieldsOf; rw [hd1]
        rw [run_equalIn_struct w d t _ _ (by rw [hfo]; exact hd1) hEt.held, hfo]
        have hn := hEt.names fields hd1
        subst hfs
        clear hx hy hl hd1 hd3 hfo htd
        generalize fields.toList = l at h hn
        induction l generalizing r with
        | nil =>
          have h : some true = some r := h
          cases h
          simp [Op.eqFields]
        | cons f fl ih =>
          simp only [List.map_cons] at h
          split at h
          · rename_i fi hfi
            split at h
            · rename_i a' b' hra hrb
              split at h
              · rename_i r1 r2 he1 he2
                have h : some (Bool.rec false r2 r1 : Bool) = some r := h
                obtain ⟨hla, rfl⟩ := range_inv hra
                obtain ⟨hlb, rfl⟩ := range_inv hrb
                have hxa := ha.length
                have hyb := hb.length
                have hax : Reps G ((a.drop f.offset).take fi.size) ((xs.drop f.offset).take fi.size) := (ha.drop _).take _
                have hby : Reps G ((b.drop f.offset).take fi.size) ((ys.drop f.offset).take fi.size) := (hb.drop _).take _
                have hlen1 : ∀ {us : List Value}, us.length = a.length → isAgg fi.td = false → True := fun _ _ => trivial
                have hsz : isAgg fi.td = false → fi.size = 1 := fun hi => by
                  cases n with
                  | zero => cases he1
                  | succ m =>
                    have he1 : eqT tb (m + 1) f.type ((a.drop f.offset).take fi.size) ((b.drop f.offset).take fi.size) = some r1 := he1
                    unfold eqT at he1
                    simp only [hfi] at he1
                    have hl1 : ((a.drop f.offset).take fi.size).length = fi.size := by rw [List.length_take, List.length_drop]; have : f.offset + fi.size ≤ a.length := hla; omega
                    split at he1
                    · rename_i heq _; rw [heq] at hl1; exact hl1.symm
                    · rename_i heq _; rw [heq] at hl1; exact hl1.symm
                    · rename_i heq _; rw [heq] at hl1; exact hl1.symm
                    · rename_i htd'; rw [htd'] at hi; cases hi
                    · cases he1
                have hla' : f.offset + fi.size ≤ xs.length := by rw [hxa]; exact hla
                have hlb' : f.offset + fi.size ≤ ys.length := by rw [hyb]; exact hlb
                obtain ⟨v1, hv1⟩ := shape_exists (ti := fi) (cs := (xs.drop f.offset).take fi.size) fun hi => by rw [List.length_take, List.length_drop, hsz hi]; have := hsz hi; omega
                obtain ⟨v2, hv2⟩ := shape_exists (ti := fi) (cs := (ys.drop f.offset).take fi.size) fun hi => by rw [List.length_take, List.length_drop, hsz hi]; have := hsz hi; omega
                have p1 := run_part' (w := w) (hT _ _ hfi) hla' hv1
                have p2 := run_part' (w := w) (hT _ _ hfi) hlb' hv2
                have p3 := eqT_run hT hE n f.type _ _ r1 fi _ _ v1 v2 he1 hfi hax hby hv1 hv2 d (by omega)
                have hne : f.name ≠ "_" := hn f (by simp)
                have p4 := ih r2 he2 (fun g hg => hn g (by simp [hg]))
                simp only [Op.eqFields, if_pos hne, Sem.run_bind, p1, Result.andThen_ok, p2, p3]
                cases r1 with
                | false => cases h; simp
                | true => cases h; simpa using p4
              · cases h
            · cases h
          · cases h
    · cases h
theorem nilEq_run {tb : Tab} (hT : ∀ t ti, look tb.ty t = some ti → TyOk P t ti) {t : Nat} {ti : TI} (hl : look tb.ty t = some ti) {dx dy : DV} {vx vy : Value} {r : Bool} (h : nilEq ti.td dx dy = some r) (hx : Rep G dx vx) (hy : Rep G dy vy) :
    (Op.equal t vx vy).run P w = .ok r w ∧ (∀ op x y, (eqGuard op t x y vx vy).run P w = .ok () w) ∧ (∀ k a, vx ≠ .int k a) ∧ (∀ s, vx ≠ .string s) ∧ (∀ k a, vx ≠ .float k a) ∧ (∀ k a b, vx ≠ .complex k a b) := by
  obtain ⟨dd, hd1, hd2, -⟩ := (hT t ti hl).desc
  unfold nilEq at h
  split at h
  · rename_i el n e i sz len lim htd
    rw [htd] at hd2
    have hd2 : dd = .slice el := hd2
    subst hd2
    rw [Rep] at hx
    rw [Rep] at hy
    obtain ⟨B, a, c, -, rfl, -⟩ := hx
    subst hy
    cases h
    refine ⟨run_equal_slice_nil w t el (some a) len c hd1, fun op x y => by cases op <;> simp [eqGuard], fun _ _ h => (by cases h), fun _ h => (by cases h), fun _ _ h => (by cases h), fun _ _ _ h => (by cases h)⟩
  · rename_i el htd
    rw [htd] at hd2
    have hd2 : dd = .slice el := hd2
    subst hd2
    rw [Rep] at hx
    rw [Rep] at hy
    subst hx hy
    cases h
    refine ⟨run_equal_slice_nil w t el none 0 0 hd1, fun op x y => by cases op <;> simp [eqGuard], fun _ _ h => (by cases h), fun _ h => (by cases h), fun _ _ h => (by cases h), fun _ _ _ h => (by cases h)⟩
  · rename_i kt et n htd
    rw [htd] at hd2
    have hd2 : dd = .map kt et := hd2
    subst hd2
    rw [Rep] at hx
    rw [Rep] at hy
    obtain ⟨B, -, rfl⟩ := hx
    subst hy
    cases h
    refine ⟨run_equal_map_nil w t kt et (some B.b) hd1, fun op x y => by cases op <;> simp [eqGuard], fun _ _ h => (by cases h), fun _ h => (by cases h), fun _ _ h => (by cases h), fun _ _ _ h => (by cases h)⟩
  · rename_i kt et htd
    rw [htd] at hd2
    have hd2 : dd = .map kt et := hd2
    subst hd2
    rw [Rep] at hx
    rw [Rep] at hy
    subst hx hy
    cases h
    refine ⟨run_equal_map_nil w t kt et none hd1, fun op x y => by cases op <;> simp [eqGuard], fun _ _ h => (by cases h), fun _ h => (by cases h), fun _ _ h => (by cases h), fun _ _ _ h => (by cases h)⟩
  · rename_i a b htd
    rw [htd] at hd2
    have hd2 : dd = .bool := hd2
    subst hd2
    obtain rfl := rep_bool hx
    obtain rfl := rep_bool hy
    have he : (a == b) = r := by cases h; cases a <;> cases b <;> rfl
    refine ⟨by rw [← he]; exact run_equal_bool w t a b hd1, fun op x y => by cases op <;> simp [eqGuard], fun _ _ h => (by cases h), fun _ h => (by cases h), fun _ _ h => (by cases h), fun _ _ _ h => (by cases h)⟩
  · cases h
theorem binOp_eql {t : TypeId} {vx vy : Value} (h1 : ∀ k a, vx ≠ .int k a) (h2 : ∀ s, vx ≠ .string s) (h3 : ∀ k a, vx ≠ .float k a) (h4 : ∀ k a b, vx ≠ .complex k a b) : binOp .eql t vx vy = (do pure (.bool (← Op.equal t vx vy))) ∧ binOp .neq t vx vy = (do pure (.bool (!(← Op.equal t vx vy)))) := by
  cases vx <;> first | exact absurd rfl (h1 _ _) | exact absurd rfl (h2 _) | exact absurd rfl (h3 _ _) | exact absurd rfl (h4 _ _ _) | exact ⟨rfl, rfl⟩
theorem op_bin {tb : Tab} (hT : ∀ t ti, look tb.ty t = some ti → TyOk P t ti) (hE : ∀ t, has tb.eq t = true → EqOk P t) {op : BinOp} {t : Nat} {x y : Operand} {dx dy d : DV} {vx vy : Value} (h : bin tb op t dx dy = some d) (hx : Rep G dx vx) (hy : Rep G dy vy) :
    ∃ v, (do eqGuard op t x y vx vy; binOp op t vx vy : Sem Value).run P w = .ok v w ∧ Rep G d v := by
  unfold bin at h
  split at h
  · rename_i k a k' b
    obtain rfl := rep_int hx
    obtain rfl := rep_int hy
    have hg : (eqGuard op t x y (.int k a) (.int k' b)).run P w = .ok () w := by cases op <;> simp [eqGuard]
    simp only [Sem.run_bind, hg, Result.andThen_ok]
    cases hs : isShift op with
    | true =>
      rw [hs] at h
      cases op <;> simp only [isShift] at hs <;> try (cases hs)
      · exact shl_run h t
      · exact shr_run h t
    | false =>
      rw [hs] at h
      have h3 : (bif eqK k k' then intOp op k a b else none) = some d := h
      clear h
      cases he : eqK k k' with
      | false => rw [he] at h3; cases h3
      | true =>
        rw [he] at h3
        obtain rfl := eqK_eq he
        exact intOp_run hs h3 t
  · rename_i a b
    rw [Rep] at hx hy
    obtain ⟨sx, rfl, h1⟩ := hx
    obtain ⟨sy, rfl, h2⟩ := hy
    have hg : (eqGuard op t x y (.string sx) (.string sy)).run P w = .ok () w := by cases op <;> simp [eqGuard]
    simp only [Sem.run_bind, hg, Result.andThen_ok]
    exact strOp_run h h1 h2 t
  · rename_i a b
    rw [Rep] at hx hy
    obtain ⟨xs, rfl, h1⟩ := hx
    obtain ⟨ys, rfl, h2⟩ := hy
    cases hq : has tb.eq t with
    | false => rw [hq] at h; cases h
    | true =>
      rw [hq] at h
      have hEt := hE t hq
      have hg := run_eqGuard_agg w op t x y xs.toArray ys.toArray hEt.guard (P := P)
      simp only [Sem.run_bind, hg, Result.andThen_ok]
      have main : ∀ r, eqT tb 5 t a b = some r → (Op.equalIn 10000 t (.agg xs.toArray) (.agg ys.toArray)).run P w = .ok r w := by
        intro r hr
        cases hl : look tb.ty t with
        | none =>
          have hr : (Option.rec none _ (look tb.ty t) : Option Bool) = some r := hr
          rw [hl] at hr; cases hr
        | some ti =>
          have hia : isAgg ti.td = true := by
            obtain ⟨dd, q1, q2, q3⟩ := (hT t ti hl).desc
            obtain ⟨fields, q4⟩ := hEt.struct
            rw [q4] at q1; cases q1
            rw [← q3]
          exact eqT_run hT hE 5 t a b r ti xs ys _ _ hr hl h1 h2 (.inl ⟨hia, rfl⟩) (.inl ⟨hia, rfl⟩) 10000 (by omega)
      simp only [cond_true] at h
      cases op <;> try (cases h; done)
      · cases hr : eqT tb 5 t a b with
        | none => rw [hr] at h; cases h
        | some r =>
          rw [hr] at h; cases h
          rw [run_eql_struct, main r hr]
          exact ⟨_, rfl, by rw [Rep]⟩
      · cases hr : eqT tb 5 t a b with
        | none => rw [hr] at h; cases h
        | some r =>
          rw [hr] at h; cases h
          rw [run_neq_struct, main r hr]
          exact ⟨_, rfl, by rw [Rep]⟩
  · cases hl : look tb.ty t with
    | none => rw [hl] at h; cases h
    | some ti =>
      rw [hl] at h
      have h : (Option.rec none (fun r => match (generalizing := false) op with
        | .eql => some (.bool r)
        | .neq => some (.bool (!r))
        | _ => none) (nilEq ti.td dx dy) : Option DV) = some d := h
      cases hn : nilEq ti.td dx dy with
      | none => rw [hn] at h; cases h
      | some r =>
        rw [hn] at h
        obtain ⟨q1, q2, q3, q4, q5, q6⟩ := nilEq_run (P := P) (w := w) hT hl hn hx hy
        obtain ⟨e1, e2⟩ := binOp_eql (t := t) (vy := vy) q3 q4 q5 q6
        simp only [Sem.run_bind, q2, Result.andThen_ok]
        cases op <;> try (cases h; done)
        · cases h
          rw [e1]
          simp only [Sem.run_bind, q1, Result.andThen_ok, Sem.run_pure]
          exact ⟨_, rfl, by rw [Rep]⟩
        · cases h
          rw [e2]
          simp only [Sem.run_bind, q1, Result.andThen_ok, Sem.run_pure]
          exact ⟨_, rfl, by rw [Rep]⟩
end Go.E
end
section
namespace Go.E
open Go Go.RowKit
variable {P : Program} {B0 L : Nat} {G : Gh} {w : World}
theorem bytesOf_inv : ∀ {cs : List DV} {l : List Nat} {vs : List Value}, bytesOf cs = some l → Reps G cs vs → vs = (l.map Int.ofNat).map (Value.int .u8) ∧ ∀ b ∈ l, b ≤ 255
  | [], l, vs, h, hr => by
    rw [Reps.nil_iff] at hr
    cases h; subst hr; exact ⟨rfl, fun _ h => by cases h⟩
  | d :: r, l, vs, h, hr => by
    obtain ⟨v, r', rfl, h1, h2⟩ := Reps.cons_iff.1 hr
    unfold bytesOf at h
    split at h
    · rename_i heq; cases heq
    · rename_i n r1 heq
      cases heq
      cases hb : leZ 0 n && Nat.ble n.toNat 255 with
      | false => rw [hb] at h; cases h
      | true =>
        rw [hb] at h
        rw [Bool.and_eq_true] at hb
        have h0 := leZ_le hb.1
        have h3 := Nat.le_of_ble_eq_true hb.2
        have h : (match bytesOf r with | none => none | some l => some (n.toNat :: l)) = some l := h
        split at h
        · cases h
        · rename_i l' hl
          cases h
          obtain ⟨rfl, h5⟩ := bytesOf_inv hl h2
          obtain rfl := rep_int h1
          refine ⟨?_, fun b hb => ?_⟩
          · simp only [List.map_cons]
            congr 2
            show n = Int.ofNat n.toNat
            simp; omega
          · rcases List.mem_cons.1 hb with rfl | hb
            · exact h3
            · exact h5 b hb
    · cases h
theorem push_all : ∀ (l : List Nat) (s : ByteArray), ((l.map Int.ofNat).foldl (fun (r : ByteArray) (n : Int) => r.push (UInt8.ofNat n.toNat)) s).data.toList = s.data.toList ++ l.map UInt8.ofNat
  | [], s => by simp
  | b :: r, s => by
    rw [List.map_cons, List.foldl_cons, push_all r]
    simp [ByteArray.push]
theorem bytes_back : ∀ l : List Nat, (∀ b ∈ l, b ≤ 255) → (l.map UInt8.ofNat).map UInt8.toNat = l
  | [], _ => rfl
  | b :: r, hb => by
    rw [List.map_cons, List.map_cons, bytes_back r fun x hx => hb x (by simp [hx])]
    have := hb b (by simp)
    congr 1
    rw [UInt8.toNat_ofNat']; omega
theorem op_convert {tb : Tab} (hT : ∀ t ti, look tb.ty t = some ti → TyOk P t ti) {s t : Nat} {dx d : DV} {vx : Value} {σ σ' : Sto} (h : Runs (opConvert tb s t dx) σ d σ') (hx : Rep G dx vx) (I : Inv B0 G σ.c L σ.s w) :
    ∃ v, (convert s t vx).run P w = .ok v w ∧ Rep G d v ∧ σ'.c = σ.c ∧ σ'.s = σ.s := by
  unfold opConvert at h
  split at h
  · rename_i k1 z1 s1 b1 k z2 s2 b2 hs ht
    split at h
    · rename_i k' n
      rw [seqI_eq] at h
      obtain ⟨rfl, rfl⟩ := pur_inv h
      obtain ⟨d1, h1, h2, -⟩ := (hT s _ hs).desc
      obtain ⟨d2, h3, h4, -⟩ := (hT t _ ht).desc
      have h2 : d1 = .int k1 := h2
      have h4 : d2 = .int k := h4
      subst h2 h4
      obtain rfl := rep_int hx
      exact ⟨.int k (k.wrap n), by simp [convert, run_underlying h1, run_underlying h3, Conv.intToInt], by rw [Rep, wrapI_eq], rfl, rfl⟩
    · exact (fail_inv h).elim
  · rename_i e z1 s1 b1 z2 s2 b2 hs ht
    split at h
    · rename_i z3 s3 b3 n ep i len lim he
      obtain ⟨cs, σ1, h1, h2⟩ := h.split (ok_loadC _ _ _ _)
      obtain ⟨e', m, fz, row, hrow, hm, he2, hlen, rfl, hc1, hs1⟩ := loadC_inv h1
      obtain ⟨l, hl, h2⟩ := opt_inv h2
      rw [seqLN_eq] at h2
      obtain ⟨rfl, rfl⟩ := pur_inv h2
      obtain ⟨d1, g1, g2, -⟩ := (hT s _ hs).desc
      obtain ⟨d2, g3, g4, -⟩ := (hT t _ ht).desc
      obtain ⟨d3, g5, g6, -⟩ := (hT e _ he).desc
      have g2 : d1 = .slice e := g2
      have g4 : d2 = .string := g4
      have g6 : d3 = .int .u8 := g6
      subst g2 g4 g6
      rw [Rep] at hx
      obtain ⟨B, a, c, hB, rfl, hsz, hlc, hsh, hext, ha, hcap, -, -⟩ := hx
      rw [Nat.mul_one] at hsh hext ha
      obtain ⟨vs, hvs, hvl, hran⟩ := I.load hrow hm he2 hB (o := i) (k := len) hsh hext
      obtain ⟨rfl, hb⟩ := bytesOf_inv hl hvs
      have hload : (loadCells a len).run P w = .ok ((l.map Int.ofNat).map (Value.int .u8)).toArray w := by
        have := run_loadCells_list (P := P) w a ((l.map Int.ofNat).map (Value.int .u8)) (fun j u hj => by
          rcases ha with ha | ha
          · exfalso
            obtain rfl : len = 0 := by omega
            rw [List.eq_nil_of_length_eq_zero hvl] at hj; cases hj
          · rw [ha, Addr.add_mid]; exact hran j u hj)
        rw [hvl] at this
        exact this
      refine ⟨_, by rw [run_convert_bytes_string w s t e _ _ _ g1 g5 g3]; exact run_bytesToString w a len c _ hload, ?_, hc1, hs1⟩
      rw [Rep]
      refine ⟨_, rfl, ?_⟩
      rw [push_all]
      show ([] ++ l.map UInt8.ofNat).map UInt8.toNat = l
      rw [List.nil_append]
      exact bytes_back l hb
    · exact (fail_inv h).elim
  · exact (fail_inv h).elim
theorem op_copy {tb : Tab} (hT : ∀ t ti, look tb.ty t = some ti → TyOk P t ti) {t t' ty : Nat} {dd dx d : DV} {vd vx : Value} {σ σ' : Sto} (h : Runs (opCopy tb t t' dd dx) σ d σ') (hd : Rep G dd vd) (hx : Rep G dx vx) (I : Inv B0 G σ.c L σ.s w) :
    ∃ v w', (Builtin.copy_ #[t, t'] ty #[vd, vx]).run P w = .ok v w' ∧ Rep G d v ∧ Inv B0 G σ'.c L σ'.s w' ∧ Below B0 w w' := by
  unfold opCopy at h
  split at h
  · rename_i el z s b n e i sz len lim hl
    split at h
    · exact (fail_inv h).elim
    · rename_i te hte
      obtain ⟨hb, h⟩ := cond_fail_inv h
      obtain rfl := Nat.eq_of_beq_eq_true hb
      obtain ⟨lx, xs, σ1, hc1, hs1, h, hxl, hsrc⟩ := source_inv (B0 := B0) (L := L) hT h
      obtain ⟨news, hnr, -, hlenOf, hfirst⟩ := hsrc G w vx hx I
      have hnl := hnr.length
      obtain ⟨d1, g1, g2, -⟩ := (hT t _ hl).desc
      have g2 : d1 = .slice el := g2
      subst g2
      obtain ⟨ie, zv, hie, hies, hieb, hz, hzc⟩ := (hT _ _ hte).info
      rw [Rep] at hd
      obtain ⟨B, a, c, hB, rfl, hsz, hlc, hsh, hext, ha, hcap, -, -⟩ := hd
      have hmin : (bif Nat.ble lx len then lx else len) = Nat.min lx len := by
        cases hq : Nat.ble lx len with
        | true => exact (Nat.min_eq_left (Nat.le_of_ble_eq_true hq)).symm
        | false =>
          have : ¬ lx ≤ len := fun hh => by rw [Nat.ble_eq_true_of_le hh] at hq; cases hq
          have h2 : len ≤ lx := by omega
          exact (Nat.min_eq_right h2).symm
      rw [hmin, seqN_eq, takeR_eq] at h
      generalize hl0 : Nat.min lx len = l at h
      have hlle : l ≤ lx ∧ l ≤ len := by rw [← hl0]; exact ⟨Nat.min_le_left _ _, Nat.min_le_right _ _⟩
      have hf := hfirst l hlle.1
      rw [← hies] at hf
      rcases cond_inv h with ⟨hb, h⟩ | ⟨hb, h⟩
      · obtain rfl := Nat.eq_of_beq_eq_true hb
        obtain ⟨rfl, rfl⟩ := pur_inv h
        refine ⟨goInt 0, w, ?_, by rw [Rep]; rfl, by rw [hc1, hs1]; exact I, .refl _ _⟩
        rw [Nat.zero_mul, List.take_zero] at hf
        simp [Builtin.copy_, run_underlying g1, hlenOf, sizeOf, typeInfo, hie, hl0, hf, storeCells]
      · obtain ⟨u, σ2, h1, h2⟩ := h.split (ok_storeC _ _ _ _)
        obtain ⟨rfl, rfl⟩ := pur_inv h2
        obtain ⟨m, fz, row, hrow, hone, hlen, hdp, hc2, hs2⟩ := storeC_inv h1
        rw [hs1] at hrow
        have hpos : l ≠ 0 := fun hh => by rw [hh] at hb; cases hb
        have ha' : a = ⟨B.b, i * te.size - B.sh, none⟩ := ha.resolve_left (by omega)
        subst ha'
        have htr : Reps G (xs.take (l * te.size)) (news.take (l * te.size)) := hnr.take _
        obtain ⟨hI, hth⟩ := I.store hrow hB (o := i * te.size) htr hsh hlen hdp
        refine ⟨goInt l, w.setCells B.b (i * te.size - B.sh) (news.take (l * te.size)), ?_, by rw [Rep]; rfl, by rw [hc2, hs2, hc1, hs1]; exact hI, setCells_below (I.known _ _ _ hB).1 _ _ _ (.refl _ _)⟩
        have hst := run_storeCells_cells (P := P) B.b (i * te.size - B.sh) (news.take (l * te.size)) 0 w (fun j hj => by simpa using (hth j hj).1) (fun j hj => by simpa using (hth j hj).2) (ok_ones htr hone)
        simp only [Nat.add_zero] at hst
        rw [hies] at hf
        simp [Builtin.copy_, run_underlying g1, hlenOf, sizeOf, typeInfo, hie, hies, hl0, hf, hst]
  · exact (fail_inv h).elim
theorem op_slice3 {tb : Tab} (hT : ∀ t ti, look tb.ty t = some ti → TyOk P t ti) {t : Nat} {dx d m : DV} {lo hi : Option DV} {vx vm : Value} {vlo vhi : Option Value} {σ σ' : Sto} (h : Runs (opSlice tb t dx lo hi (some m)) σ d σ') (hx : Rep G dx vx)
    (hl : RepO G lo vlo) (hh : RepO G hi vhi) (hm : Rep G m vm) : ∃ v, (Instr.sliceAt t vx vlo vhi (some vm)).run P w = .ok v w ∧ Rep G d v ∧ σ' = σ := by
  have lows : ∀ {hn ln : Nat} (code : BoundsCode), bound hn lo 0 = some ln → ln ≤ hn ∧ (match vlo with | some v => Instr.sliceBound v hn code | none => pure 0 : Sem Nat).run P w = .ok ln w := by
    intro hn ln code e2
    cases lo with
    | none =>
      obtain rfl : vlo = none := hl
      simp only [bound, Option.some.injEq] at e2
      subst e2
      exact ⟨Nat.zero_le _, rfl⟩
    | some d =>
      obtain ⟨x, rfl, hx⟩ := hl
      obtain ⟨h1, h2⟩ := run_bound (P := P) (w := w) e2 hx (Nat.le_refl _) code
      exact ⟨h2, h1⟩
  unfold opSlice at h
  split at h
  · rename_i heq; cases heq
  · rename_i heq; cases heq
  · rename_i el z s y n e i sz len lim m' hlk heq
    cases heq
    split at h
    · rename_i mn te hi' e0 hel
      obtain ⟨hb, h⟩ := cond_fail_inv h
      have hte := Nat.eq_of_beq_eq_true hb
      obtain ⟨xh, rfl, hxh⟩ := hh
      split at h
      · exact (fail_inv h).elim
      · rename_i hn e1
        split at h
        · exact (fail_inv h).elim
        · rename_i ln e2
          rw [seqN_eq, seqN_eq, seqN_eq] at h
          obtain ⟨rfl, rfl⟩ := pur_inv h
          rw [Rep] at hx
          obtain ⟨B, a, c, hB, rfl, hsz, hlc, hsh, hext, ha, hcap, hlim1, hlim2⟩ := hx
          obtain ⟨dd, hd1, hd2, -⟩ := (hT t _ hlk).desc
          have hd2 : dd = .slice el := hd2
          subst hd2
          obtain ⟨r1, r2⟩ := run_bound (P := P) (w := w) e0 hm hlc .slice3Acap
          obtain ⟨r3, r4⟩ := run_bound (P := P) (w := w) e1 hxh (Nat.le_refl _) .slice3B
          obtain ⟨r5, r6⟩ := lows .slice3C e2
          have a5 := run_sizeOf' (hT _ _ hel) w
          rw [hte] at a5
          have hbounds : (Instr.sliceBounds true len c vlo (some xh) (some vm)).run P w = .ok (ln, hn, mn) w := by
            cases vlo <;> simp_all [Instr.sliceBounds]
          have hrun : (Instr.sliceAt t (.slice (some a) len c) vlo (some xh) (some vm)).run P w = .ok (.slice (if mn = ln then some a else (some a).map (·.add (ln * sz))) (hn - ln) (mn - ln)) w := by
            simp [Instr.sliceAt, Instr.slice, run_underlying hd1 w, hbounds, a5]
          exact ⟨_, hrun, rep_part hB hsz hlc hsh hext ha hcap r5 (by omega) (by omega) r4 (fun hx => by cases hx) (fun x hx => by cases hx; rfl), rfl⟩
    · exact (fail_inv h).elim
  · rename_i heq; cases heq
  · rename_i el z s y m' hlk heq
    cases heq
    split at h
    · rename_i mn hi' ln te e0 e2 hel
      split at h
      · rename_i hn e1
        obtain ⟨rfl, rfl⟩ := pur_inv h
        obtain ⟨xh, rfl, hxh⟩ := hh
        rw [Rep] at hx
        subst hx
        obtain ⟨dd, hd1, hd2, -⟩ := (hT t _ hlk).desc
        have hd2 : dd = .slice el := hd2
        subst hd2
        obtain ⟨r1, r2⟩ := run_bound (P := P) (w := w) e0 hm (Nat.le_refl _) .slice3Acap
        obtain ⟨r3, r4⟩ := run_bound (P := P) (w := w) e1 hxh (Nat.le_refl _) .slice3B
        obtain ⟨r5, r6⟩ := lows .slice3C e2
        obtain rfl : mn = 0 := by omega
        obtain rfl : hn = 0 := by omega
        obtain rfl : ln = 0 := by omega
        have a5 := run_sizeOf' (hT _ _ hel) w
        have hbounds : (Instr.sliceBounds true 0 0 vlo (some xh) (some vm)).run P w = .ok (0, 0, 0) w := by
          cases vlo <;> simp_all [Instr.sliceBounds]
        refine ⟨.slice none 0 0, ?_, by unfold nilS; rw [Rep], rfl⟩
        simp [Instr.sliceAt, Instr.slice, run_underlying hd1 w, hbounds, a5]
      · exact (fail_inv h).elim
    · exact (fail_inv h).elim
  · exact (fail_inv h).elim
theorem min_run {a b d : DV} {va vb : Value} {σ σ' : Sto} (h : Runs (orNf (mins [a, b])) σ d σ') (ha : Rep G a va) (hb : Rep G b vb) :
    ∃ k x y, va = .int k x ∧ vb = .int k y ∧ d = .int k (if x ≤ y then x else y) ∧ σ' = σ := by
  obtain ⟨h1, rfl⟩ := orNf_inv h
  cases a <;> cases b <;> simp only [mins] at h1 <;> try (cases h1)
  rename_i k x k' y
  cases he : eqK k k' with
  | false => rw [he] at h1; cases h1
  | true =>
    rw [he] at h1
    obtain rfl := eqK_eq he
    simp only [cond_true, Option.some.injEq] at h1
    refine ⟨k, x, y, rep_int ha, rep_int hb, ?_, rfl⟩
    rw [← h1, leZ_eq]
    by_cases hh : x ≤ y <;> simp [hh]
end Go.E
end
