/- Iterators over the keys of maps, and Collect, at the types of this program. -/
import Derived.Sort.MapsRangeIn
import Derived.RangeFuncGives
import Derived.Test.YtmmjnbpoilicjaaGreatProg
import Derived.Shelf.SlIterI.Nil
import Derived.Shelf.SlIterI.Sorted
import Derived.Shelf.SlSortCmp.NoneTotal
import Derived.Sort.OwnSortedInts
import Derived.Lib.QuietBelow
set_option linter.unusedVariables false
set_option linter.unusedSimpArgs false
section
namespace Go.K
open Go Go.RowKit
def RawAt (w : World) (b r : Nat) (es : Array MapEntry) (clock : Nat) (ss : List Value) : Prop :=
  w.heap[b]? = some (.map es clock) ∧ ∃ seen, w.heap[r]? = some (.mapIter (some b) clock seen clock) ∧ ∃ done : List MapEntry, ss = done.map (·.key) ∧ (done ++ (leftOf es seen).toList).Perm es.toList
theorem perm_take {l : List MapEntry} {e : MapEntry} (hn : (l.map (·.born)).Nodup) (he : e ∈ l) : l.Perm (e :: l.filter fun x => x.born != e.born) := by
  induction l with
  | nil => cases he
  | cons x l ih =>
    have hn' : x.born ∉ l.map (·.born) ∧ (l.map (·.born)).Nodup := List.nodup_cons.1 hn
    rcases List.mem_cons.1 he with rfl | h
    · rw [List.filter_cons_of_neg (by simp)]
      have : l.filter (fun x => x.born != e.born) = l := List.filter_eq_self.2 fun y hy => by
        simp only [bne_iff_ne, ne_eq]
        intro hh
        exact hn'.1 (hh ▸ List.mem_map_of_mem hy)
      rw [this]
    · have hne : (x.born != e.born) = true := by
        simp only [bne_iff_ne, ne_eq]
        intro hh
        exact hn'.1 (hh ▸ List.mem_map_of_mem h)
      rw [show (x :: l).filter (fun x => x.born != e.born) = x :: l.filter (fun x => x.born != e.born) from List.filter_cons_of_pos hne]
      exact ((ih hn'.2 h).cons x).trans (List.Perm.swap e x _)
theorem left_push (es : Array MapEntry) (seen : Array Nat) (e : MapEntry) (hn : (es.toList.map (·.born)).Nodup) (he : e ∈ (leftOf es seen).toList) :
    (leftOf es seen).toList.Perm (e :: (leftOf es (seen.push e.born)).toList) := by
  have h1 : (leftOf es (seen.push e.born)).toList = (leftOf es seen).toList.filter fun x => x.born != e.born := by
    unfold leftOf
    simp only [Array.toList_filter, List.filter_filter]
    congr 1
    funext x
    rw [Array.contains_push]
    cases h : (x.born == e.born) <;> cases h2 : seen.contains x.born <;> simp_all
  rw [h1]
  refine perm_take ?_ he
  unfold leftOf
  rw [Array.toList_filter]
  exact (List.Sublist.map _ (List.filter_sublist)).nodup hn
section
variable {F : Fence} {n : Nat} {P : Program} (w : World) {ops : Array Oper} {rest : List Oper} {o : Oper} {a : Act} {Q : Exit → Act → World → Prop}
theorem wpListIn_range_raw (hg : o.guard = none) (m : Operand) (t : TypeId) (hop : o.op = Op.range t m) (k e : TypeId) (ht : P.underlying t = some (.map k e)) (b : Nat) (es : Array MapEntry) (clock : Nat)
    (hm : a.eval m = .map (some b)) (hb : w.heap[b]? = some (.map es clock))
    (hK : ∀ w', RawAt w' b w.heap.size es clock [] → w.grownBy w' none → w'.heap.size = w.heap.size + 1 → wpListIn F n P ops Q rest (a.put o.dst (.pointer (some ⟨w.heap.size, 0, none⟩))) w') :
    wpListIn F n P ops Q (o :: rest) a w := by
  refine wpListIn_plain hg fun K' hK' => ?_
  have hrun : (Instr.range t (.map (some b))).run P w = .ok (.pointer (some ⟨w.heap.size, 0, none⟩)) (w.alloc (.mapIter (some b) clock #[] clock)) := by
    simp [Instr.range, run_underlying ht, MapKept.run_getObj_map hb, newObj, Sem.run, Result.andThen]
  have hlt : b < w.heap.size := (Array.getElem?_eq_some_iff.1 hb).1
  unfold Oper.wpIn
  refine ⟨by simp [Oper.about, hop], ?_⟩
  rw [Oper.semAt_plain F _ _ (by rw [hop]; intro c hc'; cases hc')]
  simp [execOp, hop, hm, hrun, Result.andThen]
  refine hK' _ _ (hK _ ⟨(Below.heap_alloc _ _ b hlt).trans hb, #[], World.alloc_heap_new _ _, [], rfl, ?_⟩ ⟨rfl, rfl, rfl, by simp, fun k hk _ => Below.heap_alloc _ _ k hk⟩ (by simp))
  unfold leftOf
  simp
  exact .of_eq (List.filter_eq_self.2 fun _ _ => rfl)
theorem wpListIn_next_raw (hg : o.guard = none) (it : Operand) (hop : o.op = Op.next it false) (b r : Nat) (es : Array MapEntry) (clock : Nat) (ss : List Value) (hold : ∀ x ∈ es.toList, x.born < clock) (hnd : (es.toList.map (·.born)).Nodup)
    (hit : a.eval it = .pointer (some ⟨r, 0, none⟩)) (h : RawAt w b r es clock ss)
    (hDone : ss.Perm (es.toList.map (·.key)) → wpListIn F n P ops Q rest (a.put o.dst (.tuple #[.bool false])) w)
    (hMore : ∀ (e : MapEntry) (w' : World), e ∈ es.toList → ss.length < es.size → RawAt w' b r es clock (ss ++ [e.key]) → w'.rangeLeft b r < w.rangeLeft b r → w.grownBy w' (some r) → w'.heap.size = w.heap.size →
      (Instr.entry (.pointer (some ⟨r, 0, none⟩))).run P w' = .ok (.tuple #[e.key, e.val]) w' → wpListIn F n P ops Q rest (a.put o.dst (.tuple #[.bool true, e.key, e.val])) w') :
    wpListIn F n P ops Q (o :: rest) a w := by
  refine wpListIn_plain hg fun K' hK' => ?_
  unfold Oper.wpIn
  refine ⟨by simp [Oper.about, hop], ?_⟩
  rw [Oper.semAt_plain F _ _ (by rw [hop]; intro c hc'; cases hc')]
  obtain ⟨hb, seen, hr, done, rfl, hp⟩ := h
  have hne : b ≠ r := fun e => by rw [e, hr] at hb; cases hb
  rcases run_next_at (P := P) w o.type r b clock clock seen es clock hr hb hold (Nat.le_refl _) with ⟨h0, hrun⟩ | ⟨e, he, w1, hal, hrun⟩
  · have hl : (leftOf es seen).toList = [] := by simpa using h0
    rw [hl, List.append_nil] at hp
    simp [execOp, hop, hit, hrun, Result.andThen]
    exact hK' _ _ (hDone (hp.map _))
  · obtain ⟨hem, hes⟩ := mem_left he
    have hr1 : w1.heap[r]? = some (.mapIter (some b) clock seen clock) := by rcases hal with rfl | rfl <;> exact hr
    have hb1 : w1.heap[b]? = some (.map es clock) := by rcases hal with rfl | rfl <;> exact hb
    have hset := MapKept.heap_set (o' := .mapIter (some b) clock (seen.push e.born) clock) hr1
    have hb' := (hset.2 b hne).trans hb1
    have hp1 := left_push es seen e hnd he
    have hRA : RawAt (ChangeMaps.setBlock w1 r (.mapIter (some b) clock (seen.push e.born) clock)) b r es clock (done.map (·.key) ++ [e.key]) := by
      refine ⟨hb', seen.push e.born, hset.1, done ++ [e], by simp, ?_⟩
      rw [List.append_assoc, List.singleton_append]
      exact ((List.perm_append_left_iff done).2 hp1.symm).trans hp
    have hlen : (done.map (·.key)).length < es.size := by
      have := hp.length_eq
      have h2 := hp1.length_eq
      simp at this h2 ⊢
      omega
    simp [execOp, hop, hit, hrun, Result.andThen]
    refine hK' _ _ (hMore e _ hem hlen hRA ?_ ?_ ?_ (run_entry_at _ r b clock seen es clock e hset.1 hb' hem hnd))
    · have h2 := hp1.length_eq
      have q1 : (ChangeMaps.setBlock w1 r (.mapIter (some b) clock (seen.push e.born) clock)).heap[r]? = some (.mapIter (some b) clock (seen.push e.born) clock) := hset.1
      have q2 : (ChangeMaps.setBlock w1 r (.mapIter (some b) clock (seen.push e.born) clock)).heap[b]? = some (.map es clock) := hb'
      have q3 : (ChangeMaps.setBlock w1 r (.mapIter (some b) clock (seen.push e.born) clock)).rangeLeft b r = (leftOf es (seen.push e.born)).size := by
        unfold World.rangeLeft; rw [q1, q2]
      have q4 : w.rangeLeft b r = (leftOf es seen).size := by
        unfold World.rangeLeft; rw [hb, hr]
      rw [q3, q4]
      simp at h2
      omega
    · rcases hal with rfl | rfl <;> exact ⟨rfl, rfl, rfl, by simp [ChangeMaps.setBlock], fun i _ hi => hset.2 i (fun e1 => hi (by rw [e1]))⟩
    · rcases hal with rfl | rfl <;> simp [ChangeMaps.setBlock]
end
theorem RawAt.of_walks {w w' : World} {b r : Nat} {es : Array MapEntry} {clock : Nat} {ss : List Value} (h : RawAt w b r es clock ss) (hk : KeepsWalks w w') : RawAt w' b r es clock ss := by
  obtain ⟨hb, seen, hr, h⟩ := h
  exact ⟨hk.same b _ hb rfl, seen, hk.same r _ hr rfl, h⟩
theorem RawAt.left_of_walks {w w' : World} {b r : Nat} {es : Array MapEntry} {clock : Nat} {ss : List Value} (h : RawAt w b r es clock ss) (hk : KeepsWalks w w') : w'.rangeLeft b r = w.rangeLeft b r := by
  obtain ⟨hb, seen, hr, -⟩ := h
  simp only [World.rangeLeft, hk.same b _ hb rfl, hk.same r _ hr rfl, hb, hr]
theorem perm_of_map {α β : Type} {enc : α → β} (dec : β → α) (hdec : ∀ x, dec (enc x) = x) {a b : List α} (h : (a.map enc).Perm (b.map enc)) : a.Perm b := by
  have h2 := h.map dec
  have hc : ∀ l : List α, (l.map enc).map dec = l := fun l => by
    rw [List.map_map]
    conv => rhs; rw [← List.map_id l]
    exact List.map_congr_left fun x _ => hdec x
  rwa [hc, hc] at h2
theorem cells_new {w : World} (t : TypeId) (cs : List Value) (g : Nat) (hg : g = w.heap.size) : ∀ j u, cs[j]? = some u → (w.alloc (.cells cs.toArray t)).cell? ((⟨g, 0, none⟩ : Addr).add j) = some u := fun j u h => by
  subst hg
  have h1 : (w.alloc (.cells cs.toArray t)).heap[w.heap.size]? = some (.cells cs.toArray t (0, 0)) := World.alloc_heap_new w _
  have h2 : (cs.toArray)[j]? = some u := by simpa using h
  by_cases hj : j = 0
  · subst hj
    simp only [World.cell?, Addr.add, if_true]
    rw [h1]
    exact h2
  · simp only [World.cell?, Addr.add, if_neg hj]
    rw [h1]
    simpa using h2
theorem cells_at {w : World} {g : Nat} {cs : List Value} {t : TypeId} (h : w.heap[g]? = some (.cells cs.toArray t (0, 0))) (j : Nat) (u : Value) (hj : cs[j]? = some u) : w.cell? ⟨g, j, none⟩ = some u := by
  simp only [World.cell?]
  rw [h]
  simpa using hj
end Go.K
end
section
namespace Go.K
open Go Go.RowKit Go.Proofs
set_option maxRecDepth 100000 in
set_option maxHeartbeats 1000000 in
theorem keysInt_gives {α : Type} (enc : α → Value) (dec : Value → α) (hdec : ∀ x, dec (enc x) = x) (F : Fence) (n : Nat) (h10 : F.fn 103) (hro : F.round = none) (hn : 1 ≤ n) (Bm b : Nat) (es : Array MapEntry) (clock : Nat) (xs : List α)
    (hxs : es.toList.map (·.key) = xs.map enc) (hold : ∀ x ∈ es.toList, x.born < clock) (hnd : (es.toList.map (·.born)).Nodup) (w : World) (hBm : Bm < w.heap.size) (hm : w.cell? ⟨Bm, 0, none⟩ = some (.map (some b))) (hb : w.heap[b]? = some (.map es clock)) :
    SeqGives F n Tryz.prog 103 #[.pointer (some ⟨Bm, 0, none⟩)] enc (fun ss => ss.Perm xs) xs.length w := fun l J W hW hJ hY h0 => by
  have hlt : b < w.heap.size := (Array.getElem?_eq_some_iff.1 hb).1
  have hbW : W.heap[b]? = some (.map es clock) := (hW.block b hlt).trans hb
  have hmW : W.cell? ⟨Bm, 0, none⟩ = some (.map (some b)) := (hW.cell (p := ⟨Bm, 0, none⟩) hBm).trans hm
  have hsz : es.size = xs.length := by have := congrArg List.length hxs; simpa using this
  clear hb hm hW
  refine callsIn_of_wp Tryz.func103 rfl h10 ?_ hro
  simp only [Tryz.ntmps103, List.size_toArray, List.length_cons, List.length_nil, Nat.reduceAdd, Nat.reduceSub, Array.replicate_succ, Array.replicate_zero, List.push_toArray, List.append_toArray, List.nil_append, List.cons_append]
  gi_wp2_with (first
    | (gi_at_range; refine wpListIn_range_raw _ rfl _ _ rfl _ _ Tryz.underlying67 b es clock rfl hbW ?_; intro w0 hrg0 hg0 hs0)
    | gi_in)
  go_frame
  gi_loopw [3] (fun _ wr => ∃ ss : List α, RawAt wr b W.heap.size es clock (ss.map enc) ∧ J ss wr)
    (fun _ wr => wr.rangeLeft b W.heap.size)
  case atStart =>
    exact ⟨[], hrg0, hJ [] W w0 none h0 hg0 (fun r e => by cases e)⟩
  case round =>
    obtain ⟨ss, hrg, hJs⟩ := hrel
    gi_wp2_with (first
      | (gi_at_next; refine wpListIn_next_raw _ rfl _ rfl b W.heap.size es clock _ hold hnd rfl hrg ?_ ?_)
      | gi_in)
    · intro hp
      gi_wp2
      go_end0
      refine ⟨⟨_, rfl⟩, ss, ?_, hJs⟩
      exact perm_of_map dec hdec hp
    · intro e w2 hem hlen hrg2 hlt2 hg2 hs2 hen
      obtain ⟨x, hx⟩ : ∃ x, e.key = enc x := by
        have : e.key ∈ xs.map enc := hxs ▸ List.mem_map_of_mem (by simpa using hem)
        obtain ⟨x, -, hx⟩ := List.mem_map.1 this
        exact ⟨x, hx.symm⟩
      have hJ2 : J ss w2 := hJ ss wr w2 (some W.heap.size) hJs hg2 (fun r e => by
        cases e
        obtain ⟨-, seen, hr, -⟩ := hrg
        exact ⟨Nat.le_refl _, _, hr, rfl⟩)
      obtain ⟨fn, tmps, assign, body, hy, hR⟩ := hY ss x w2 hJ2 (by first | omega | (simp at hlen; omega))
      rw [hx] at hen hrg2 ⊢
      clear hs2 hx
      gi_wp2
      refine hR.mono ?_
      rintro e W3 ⟨rfl, hJ3, hk3⟩
      gi_wp2
      have hrg3 := hrg2.of_walks hk3
      have hl3 := hrg2.left_of_walks hk3
      go_roundw
      case rel => exact ⟨ss ++ [x], by simpa using hrg3, hJ3⟩
      case measure => rw [hl3]; exact hlt2
end Go.K
end
section
namespace Go.K
open Go Go.RowKit Go.Proofs
def encSpot (x : Int × Int) : Value := .agg #[.int .i64 x.1, .int .i64 x.2]
def decSpot : Value → Int × Int
  | .agg cs => (match cs.toList with | [.int .i64 a, .int .i64 b] => (a, b) | _ => (0, 0))
  | _ => (0, 0)
set_option maxRecDepth 100000 in
set_option maxHeartbeats 1000000 in
theorem keysSpot_gives (F : Fence) (n : Nat) (h10 : F.fn 195) (hro : F.round = none) (hn : 1 ≤ n) (Bm b : Nat) (es : Array MapEntry) (clock : Nat) (xs : List (Int × Int))
    (hxs : es.toList.map (·.key) = xs.map encSpot) (hold : ∀ x ∈ es.toList, x.born < clock) (hnd : (es.toList.map (·.born)).Nodup) (w : World) (hBm : Bm < w.heap.size) (hm : w.cell? ⟨Bm, 0, none⟩ = some (.map (some b))) (hb : w.heap[b]? = some (.map es clock)) :
    SeqGives F n Tryz.prog 195 #[.pointer (some ⟨Bm, 0, none⟩)] encSpot (fun ss => ss.Perm xs) xs.length w := fun l J W hW hJ hY h0 => by
  have hlt : b < w.heap.size := (Array.getElem?_eq_some_iff.1 hb).1
  have hbW : W.heap[b]? = some (.map es clock) := (hW.block b hlt).trans hb
  have hmW : W.cell? ⟨Bm, 0, none⟩ = some (.map (some b)) := (hW.cell (p := ⟨Bm, 0, none⟩) hBm).trans hm
  have hsz : es.size = xs.length := by have := congrArg List.length hxs; simpa using this
  clear hb hm hW
  refine callsIn_of_wp Tryz.func195 rfl h10 ?_ hro
  simp only [Tryz.ntmps195, List.size_toArray, List.length_cons, List.length_nil, Nat.reduceAdd, Nat.reduceSub, Array.replicate_succ, Array.replicate_zero, List.push_toArray, List.append_toArray, List.nil_append, List.cons_append]
  gi_wp2_with (first
    | (gi_at_range; refine wpListIn_range_raw _ rfl _ _ rfl _ _ Tryz.underlying219 b es clock rfl hbW ?_; intro w0 hrg0 hg0 hs0)
    | gi_in)
  go_frame
  gi_loopw [3] (fun _ wr => ∃ ss : List (Int × Int), RawAt wr b W.heap.size es clock (ss.map encSpot) ∧ J ss wr)
    (fun _ wr => wr.rangeLeft b W.heap.size)
  case atStart =>
    exact ⟨[], hrg0, hJ [] W w0 none h0 hg0 (fun r e => by cases e)⟩
  case round =>
    obtain ⟨ss, hrg, hJs⟩ := hrel
    gi_wp2_with (first
      | (gi_at_next; refine wpListIn_next_raw _ rfl _ rfl b W.heap.size es clock _ hold hnd rfl hrg ?_ ?_)
      | gi_in)
    · intro hp
      gi_wp2
      go_end0
      refine ⟨⟨_, rfl⟩, ss, ?_, hJs⟩
      exact perm_of_map decSpot (fun _ => rfl) hp
    · intro e w2 hem hlen hrg2 hlt2 hg2 hs2 hen
      obtain ⟨x, hx⟩ : ∃ x, e.key = encSpot x := by
        have : e.key ∈ xs.map encSpot := hxs ▸ List.mem_map_of_mem (by simpa using hem)
        obtain ⟨x, -, hx⟩ := List.mem_map.1 this
        exact ⟨x, hx.symm⟩
      rw [hx] at hen hrg2 ⊢
      obtain ⟨x1, x2⟩ := x
      unfold encSpot at hen ⊢
      clear hx
      have hJ2 : J ss w2 := hJ ss wr w2 (some W.heap.size) hJs hg2 (fun r e => by
        cases e
        obtain ⟨-, seen, hr, -⟩ := hrg
        exact ⟨Nat.le_refl _, _, hr, rfl⟩)
      have hJ2' : J ss (w2.alloc (.cells #[.int .i64 x1, .int .i64 x2] 202)) := hJ ss w2 _ none hJ2 ⟨rfl, rfl, rfl, by simp, fun k hk _ => Below.heap_alloc _ _ k hk⟩ (fun r e => by cases e)
      have hk2 : KeepsWalks w2 (w2.alloc (.cells #[.int .i64 x1, .int .i64 x2] 202)) := KeepsWalks.alloc _ _
      have hrg2' := hrg2.of_walks hk2
      have hl2' := hrg2.left_of_walks hk2
      obtain ⟨fn, tmps, assign, body, hy, hR⟩ := hY ss (x1, x2) _ hJ2' (by first | omega | (simp at hlen; omega))
      unfold encSpot at hy
      gi_wp2
      refine hR.mono ?_
      rintro e W3 ⟨rfl, hJ3, hk3⟩
      gi_wp2
      have hrg3 := hrg2'.of_walks hk3
      have hl3 := hrg2'.left_of_walks hk3
      go_roundw
      case rel => exact ⟨ss ++ [(x1, x2)], by simpa using hrg3, hJ3⟩
      case measure => rw [hl3, hl2']; exact hlt2
end Go.K
end
section
namespace Go.K
open Go Go.RowKit Go.Proofs Go.Maps Go.Sort Go.Shelf
def cellsSpot (x : Int × Int) : List Value := [.int .i64 x.1, .int .i64 x.2]
def encSpot' (x : Int × Int) : Value := .agg (cellsSpot x).toArray
theorem infoSpot : (Tryz.prog.info? 202).map (fun i => (i.zero, i.size, i.bytes)) = some (some (.agg #[.int .i64 0, .int .i64 0]), 2, 16) := by kernel_rfl
def apAssignSpot : Code := (Code.region 2 #[{ dst := some 5, op := Op.alloc 202, type := 0, pos := "iter.go:51", after := #[], guard := none }, { dst := none, op := Op.store 202 (Operand.tmp 5) (Operand.tmp 7), type := 0, pos := "iter.go:51", after := #[{ on := 0, ground := Ground.data }, { on := 0, ground := Ground.phase }], guard := none }] false)
def apBodySpot : Code := (Code.block 1 (Code.region 3 #[{ dst := some 8, op := Op.load 225 (Operand.tmp 2), type := 225, pos := "iter.go:52", after := #[], guard := none }, { dst := some 9, op := Op.load 202 (Operand.tmp 5), type := 202, pos := "iter.go:52", after := #[], guard := none }, { dst := some 10, op := Op.buildSlice 225 1 #[(0, Operand.tmp 9)], type := 225, pos := "iter.go:52", after := #[{ on := 1, ground := Ground.data }], guard := none }, { dst := some 11, op := Op.call { callee := Callee.builtin Builtin.append, args := #[Operand.tmp 8, Operand.tmp 10], argTypes := #[225, 225] }, type := 225, pos := "iter.go:52", after := #[{ on := 0, ground := Ground.data }, { on := 2, ground := Ground.data }], guard := none }, { dst := none, op := Op.store 225 (Operand.tmp 2) (Operand.tmp 11), type := 0, pos := "iter.go:52", after := #[{ on := 3, ground := Ground.data }, { on := 3, ground := Ground.chain }, { on := 0, ground := Ground.phase }, { on := 1, ground := Ground.phase }, { on := 2, ground := Ground.phase }, { on := 3, ground := Ground.phase }], guard := none }] false))
def apRecSpot (fn : FuncId) (sv : Value) (Bs D : Nat) (st : LoopState) (pend : Option Code) : Loop :=
  { state := st, pending := pend, fn, tmps := #[.slice none 0 0, sv, .pointer (some ⟨Bs, 0, none⟩), undef, .slice none 0 0, undef, sv, undef, undef, undef, undef, undef, undef], params := #[7], assign := apAssignSpot, body := apBodySpot, defers := D }
structure ApAtSpot (w0 : World) (fn : FuncId) (sv : Value) (Bs l D : Nat) (ss : List (Int × Int)) (W : World) : Prop where
  box : ∃ v, W.heap[Bs]? = some (.cells #[v] 225 (0, 0)) ∧ W.ownsRow w0.heap.size 202 2 v ss.length (ss.flatMap cellsSpot) ∧ (v = .slice none 0 0 ↔ ss = [])
  L : W.heap[l]? = some (.loop (apRecSpot fn sv Bs D .ready none))
  K : W.heap[D]? = some (.deferred (some []))
  below : Below w0.heap.size w0 W
theorem ap_abidesSpot (w0 : World) (fn : FuncId) (sv : Value) (Bs l D B : Nat) (hB : w0.heap.size ≤ B) : AbidesFrom B (ApAtSpot w0 fn sv Bs l D) := fun s W W' row h hg hrow => by
  have hrow' : ∀ r, row = some r → ∃ o : Obj, W.heap[r]? = some o ∧ o.isWalk = true := fun r e => (hrow r e).2
  obtain ⟨v, hv, hr, hn⟩ := h.box
  exact ⟨⟨v, (grownBy_keeps hg hrow' hv rfl).trans hv, ownsRow_abides_a hr hg hrow', hn⟩, (grownBy_keeps hg hrow' h.L rfl).trans h.L, (grownBy_keeps hg hrow' h.K rfl).trans h.K,
    h.below.grown hg h.below.size (fun k e => Nat.le_trans hB (hrow k e).1)⟩
set_option maxRecDepth 100000 in
set_option maxHeartbeats 4000000 in
theorem apYieldSpot (F : Fence) (m : Nat) (w0 : World) (fn : FuncId) (hfn : F.fn fn) (sv : Value) (Bs l D : Nat) (hBl : Bs ≠ l) (hDl : D ≠ l) (hDB : D ≠ Bs) (h0B : w0.heap.size ≤ Bs) (h0l : w0.heap.size ≤ l)
    (N : Nat) (hN : N ≤ maxLen) (hNb : N * 16 ≤ 140737488355328) (ss : List (Int × Int)) (x : Int × Int) (W : World) (h : ApAtSpot w0 fn sv Bs l D ss W) (hlen : ss.length < N) :
    YieldAt F m Tryz.prog l #[encSpot' x] W fun e W' => e = .returned (.bool true) ∧ ApAtSpot w0 fn sv Bs l D (ss ++ [x]) W' ∧ KeepsWalks W W' := by
  have hne : (225 : Nat) ≠ 202 := by decide
  obtain ⟨i0, hi, hz0, hz1, hz2⟩ := info_parts infoSpot
  obtain ⟨v, hv, hrow, _⟩ := h.box
  refine ⟨fn, #[.slice none 0 0, sv, .pointer (some ⟨Bs, 0, none⟩), undef, .slice none 0 0, undef, sv, encSpot' x, undef, undef, undef, undef, undef], apAssignSpot, apBodySpot, by simpa [apRecSpot] using run_yield (P := Tryz.prog) (args := #[encSpot' x]) h.L rfl, roundIn_of_wpIn hfn ?_⟩
  have hl0 : l < W.heap.size := (Array.getElem?_eq_some_iff.1 h.L).1
  have hD0 : D < W.heap.size := (Array.getElem?_eq_some_iff.1 h.K).1
  have hB0 : Bs < W.heap.size := (Array.getElem?_eq_some_iff.1 hv).1
  obtain ⟨Wa, hWa⟩ : ∃ Wa, W.alloc (.cells (cellsSpot x).toArray 202) = Wa := ⟨_, rfl⟩
  have hsa : Wa.heap.size = W.heap.size + 1 := by rw [← hWa]; simp
  have holda : ∀ k, k < W.heap.size → Wa.heap[k]? = W.heap[k]? := fun k hk => by rw [← hWa]; exact Below.heap_alloc _ _ k hk
  have hLa : Wa.heap[l]? = some (.loop (apRecSpot fn sv Bs D .ready none)) := (holda l hl0).trans h.L
  have hl : l < Wa.heap.size := by omega
  have hxa : Wa.heap[W.heap.size]? = some (.cells (cellsSpot x).toArray 202 (0, 0)) := by rw [← hWa]; exact World.alloc_heap_new _ _
  have hka : KeepsWalks W Wa := by rw [← hWa]; exact KeepsWalks.alloc _ _
  have hrowa : Wa.ownsRow w0.heap.size 202 2 v ss.length (ss.flatMap cellsSpot) := by rw [← hWa]; exact hrow.alloc _
  have hba : Below w0.heap.size w0 Wa := by rw [← hWa]; exact h.below.alloc h.below.size _
  have hbr := run_beginRound (P := Tryz.prog) hLa rfl
  obtain ⟨W2, hW2⟩ : ∃ W2, Wa.putObj l (.loop { apRecSpot fn sv Bs D .ready none with state := .busy }) = W2 := ⟨_, rfl⟩
  rw [hW2] at hbr
  have hg2 : Wa.grownBy W2 (some l) := by rw [← hW2]; exact grownBy_putObj_a _ _ _
  have hk2 : KeepsWalks W W2 := hka.trans (by rw [← hW2]; exact KeepsWalks.putObj _ hLa rfl)
  have hv2 : W2.heap[Bs]? = some (.cells #[v] 225 (0, 0)) := by rw [← hW2]; exact (World.putObj_heap_other hBl).trans ((holda Bs hB0).trans hv)
  have hK2 : W2.heap[D]? = some (.deferred (some [])) := by rw [← hW2]; exact (World.putObj_heap_other hDl).trans ((holda D hD0).trans h.K)
  have hL2 : W2.heap[l]? = some (.loop { apRecSpot fn sv Bs D .ready none with state := .busy }) := by rw [← hW2]; exact World.putObj_heap_same hl
  have hx2 : W2.heap[W.heap.size]? = some (.cells (cellsSpot x).toArray 202 (0, 0)) := by rw [← hW2]; exact (World.putObj_heap_other (by omega)).trans hxa
  have hrow2 : W2.ownsRow w0.heap.size 202 2 v ss.length (ss.flatMap cellsSpot) := hrowa.kept hg2 (ownsRow_ne_a hrowa hLa (fun cur e => by first | cases e | exact hne (Obj.cells.inj e).2.1))
  have hb2 : Below w0.heap.size w0 W2 := hba.grown hg2 hba.size (fun k e => by cases e; exact h0l)
  obtain ⟨hc2, hf2⟩ := cell_of_box_a hv2
  have hxc := cells_at hx2
  have hx_0 := hxc 0 _ rfl
  have hx_1 := hxc 1 _ rfl
  clear hxc
  have hBlt : Bs < W2.heap.size := (Array.getElem?_eq_some_iff.1 hv2).1
  have hl2 : l < W2.heap.size := (Array.getElem?_eq_some_iff.1 hL2).1
  have hDlt : D < W2.heap.size := (Array.getElem?_eq_some_iff.1 hK2).1
  have ne_of : ∀ {j : Nat} {o : Obj}, W2.heap[j]? = some o → (∀ cur, o ≠ .cells cur 202 (0, 0)) → some j ≠ v.ownBlock := fun hj hno => by
    rcases ownsRow_ne_a hrow2 hj hno with e | e
    · rw [e]; simp
    · exact fun e' => e e'.symm
  clear hW2
  unfold apAssignSpot
  unfold encSpot'
  unfold cellsSpot at hWa ⊢
  gi_wp2_with gi_round_op_a
  unfold apBodySpot
  have hhold : ∀ (o1 : Obj) k, k < W2.heap.size → (W2.alloc o1).heap[k]? = W2.heap[k]? := fun o1 k hk => Below.heap_alloc _ _ k hk
  gi_wp2_with (first
    | (gi_at_builtin; refine wpListIn_append_own _ rfl _ _ 225 rfl w0.heap.size 202 i0 (.agg #[.int .i64 0, .int .i64 0]) 2 16 Tryz.underlying225 hi hz0 hz1 hz2 rfl (by decide) _ _ _ rfl (hrow2.alloc _) ⟨W2.heap.size, 0, none⟩ 1 1 (cellsSpot x) rfl rfl (cells_new _ _ W2.heap.size rfl) (by intro u hu; unfold cellsSpot at hu; simp at hu; rcases hu with rfl | hu <;> first | rfl | (subst hu; rfl) | (rcases hu with rfl | rfl | rfl | rfl <;> rfl)) (by omega) (by omega) (by have := hb2.size; simp; omega) ?_; intro v' w3 hown' hg3 hnil3
       have hv3 : w3.heap[Bs]? = some (.cells #[v] 225 (0, 0)) := (hg3.block Bs (by simp; omega) (ne_of hv2 (fun cur e => by first | cases e | exact hne (Obj.cells.inj e).2.1))).trans ((hhold _ Bs hBlt).trans hv2)
       obtain ⟨hc3, hf3⟩ := cell_of_box_a hv3
       obtain ⟨g', cap', cur', rfl, hbase', hgb', hr1, hr2, hr3, hr4⟩ : ∃ g' cap' cur', v' = .slice (some ⟨g', 0, none⟩) (ss.length + 1) cap' ∧ w0.heap.size ≤ g' ∧ w3.heap[g']? = some (.cells cur' 202 (0, 0)) ∧ ss.length + 1 ≤ cap' ∧ cap' ≤ maxLen ∧ cur'.size = cap' * 2 ∧ cur'.toList.take ((ss.length + 1) * 2) = ss.flatMap cellsSpot ++ cellsSpot x := by
         rcases hown'.2 with ⟨_, h0⟩ | h'
         · exact absurd h0 (by omega)
         · exact h'
       go_frame)
    | gi_round_op_a)
  have hL3 : w3.heap[l]? = some (.loop { apRecSpot fn sv Bs D .ready none with state := .busy }) := (hg3.block l (by simp; omega) (ne_of hL2 (fun cur e => by first | cases e | exact hne (Obj.cells.inj e).2.1))).trans ((hhold _ l hl2).trans hL2)
  have hK3 : w3.heap[D]? = some (.deferred (some [])) := (hg3.block D (by simp; omega) (ne_of hK2 (fun cur e => by first | cases e | exact hne (Obj.cells.inj e).2.1))).trans ((hhold _ D hDlt).trans hK2)
  obtain ⟨w4, hw4⟩ : ∃ w4, w3.setCell ⟨Bs, 0, none⟩ (.slice (some ⟨g', 0, none⟩) (ss.length + 1) cap') = w4 := ⟨_, rfl⟩
  rw [hw4]
  have hg4 : w3.grownBy w4 (some Bs) := by rw [← hw4]; exact grownBy_setCell0_a _ _ _
  have hv4 : w4.heap[Bs]? = some (.cells #[.slice (some ⟨g', 0, none⟩) (ss.length + 1) cap'] 225 (0, 0)) := by rw [← hw4]; exact heap_setCell_box_a _ hv3
  have hL4 : w4.heap[l]? = some (.loop { apRecSpot fn sv Bs D .ready none with state := .busy }) := (hg4.block l (Array.getElem?_eq_some_iff.1 hL3).1 (fun e => hBl (by cases e; rfl))).trans hL3
  have hK4 : w4.heap[D]? = some (.deferred (some [])) := (hg4.block D (Array.getElem?_eq_some_iff.1 hK3).1 (fun e => hDB (by cases e; rfl))).trans hK3
  have hrow4 := hown'.kept hg4 (ownsRow_ne_a hown' hv3 (fun cur e => by first | cases e | exact hne (Obj.cells.inj e).2.1))
  have hl4 : l < w4.heap.size := (Array.getElem?_eq_some_iff.1 hL4).1
  have hb3 : Below w0.heap.size w0 w3 := (hb2.alloc hb2.size _).grown hg3 (by have := hb2.size; simp; omega) (fun k e => (hrow2.lt k e).1)
  have hb4 : Below w0.heap.size w0 w4 := hb3.grown hg4 hb3.size (fun k e => by cases e; exact h0B)
  have hk4 : KeepsWalks W w4 := ((hk2.trans (KeepsWalks.alloc _ _)).trans (KeepsWalks.of_grownBy hg3 (ownsRow_not_walk_a (hrow2.alloc _)))).trans (by rw [← hw4]; exact KeepsWalks.setCell _ _ _)
  clear hw4
  refine ⟨_, _, run_endRound none hL4, rfl, ⟨⟨_, (World.putObj_heap_other hBl).trans hv4, ?_, by simp⟩, World.putObj_heap_same hl4, (World.putObj_heap_other hDl).trans hK4, hb4.grown (grownBy_putObj_a _ _ _) hb4.size (fun k e => by cases e; exact h0l)⟩, hk4.trans (KeepsWalks.putObj _ hL4 rfl)⟩
  have := hrow4.kept (grownBy_putObj_a w4 l (.loop { { apRecSpot fn sv Bs D .ready none with state := .busy } with state := if (none : Option Code).isNone then .ready else .done, pending := none })) (ownsRow_ne_a hrow4 hL4 (fun cur e => by first | cases e | exact hne (Obj.cells.inj e).2.1))
  simpa using this
set_option maxRecDepth 100000 in
set_option maxHeartbeats 4000000 in
theorem appendSeqSpot (F : Fence) (n : Nat) (h11 : F.fn 212) (hro : F.round = none) (hn : 2 ≤ n) (g : Nat) (lb : Array Value) (hFg : F.fn g) (eg : ∀ args w, (callFunc g args).run Tryz.prog w = .ok (.enter g args) w)
    (S : List (Int × Int) → Prop) (N : Nat) (hN : N ≤ maxLen) (hNb : N * 16 ≤ 140737488355328) (w : World) (hseq : SeqGives F (n - 1) Tryz.prog g lb encSpot' S N w) :
    CallsIn F n Tryz.prog 212 #[.slice none 0 0, .func (.func g) #[] lb] w fun e w' => ∃ (v : Value) (ss : List (Int × Int)), e = .returned v ∧ S ss ∧ w'.ownsRow w.heap.size 202 2 v ss.length (ss.flatMap cellsSpot) ∧ (v = .slice none 0 0 ↔ ss = []) ∧ Below w.heap.size w w' := by
  have h1 : 1 ≤ n := by omega
  have hne : (225 : Nat) ≠ 202 := by decide
  refine callsIn_of_wp_marks Tryz.func212 rfl h11 ?_ hro
  simp only [Tryz.ntmps212, List.size_toArray, List.length_cons, List.length_nil, Nat.reduceAdd, Nat.reduceSub, Array.replicate_succ, Array.replicate_zero, List.push_toArray, List.append_toArray, List.nil_append, List.cons_append]
  gi_wp2
  refine wpIn_rangeFunc ?_
  intro fn hfn
  rw [hro]
  obtain ⟨W0, hW0⟩ : ∃ W0, w.alloc (.cells #[.slice none 0 0] 225) = W0 := ⟨_, rfl⟩
  have hs0 : W0.heap.size = w.heap.size + 1 := by rw [← hW0]; simp
  have hv0 : W0.heap[w.heap.size]? = some (.cells #[.slice none 0 0] 225 (0, 0)) := by rw [← hW0]; exact World.alloc_heap_new w _
  have hb0 : Below w.heap.size w W0 := by rw [← hW0]; exact (Below.refl _ w).alloc (Nat.le_refl _) _
  rw [hW0]
  obtain ⟨W1, hW1⟩ : ∃ W1, (W0.alloc (.deferred (some []))).alloc (.loop (apRecSpot fn (.func (.func g) #[] lb) w.heap.size W0.heap.size .ready none)) = W1 := ⟨_, rfl⟩
  have hold : ∀ k, k < W0.heap.size → W1.heap[k]? = W0.heap[k]? := fun k hk => by
    rw [← hW1]; exact (Below.heap_alloc _ _ k (by simp; omega)).trans (Below.heap_alloc _ _ k hk)
  have hb1 : Below w.heap.size w W1 := by rw [← hW1]; exact (hb0.alloc hb0.size _).alloc (by have := hb0.size; simp; omega) _
  have hs1 : W1.heap.size = W0.heap.size + 2 := by rw [← hW1]; simp
  have hM : ApAtSpot w fn (.func (.func g) #[] lb) w.heap.size (W0.heap.size + 1) W0.heap.size [] W1 :=
    ⟨⟨_, (hold w.heap.size (by omega)).trans hv0, ⟨rfl, .inl ⟨rfl, rfl⟩⟩, by simp⟩,
     by rw [← hW1]; have := World.alloc_heap_new (W0.alloc (.deferred (some []))) (.loop (apRecSpot fn (.func (.func g) #[] lb) w.heap.size W0.heap.size .ready none)); rwa [World.size_alloc] at this,
     by rw [← hW1]; exact (Below.heap_alloc _ _ _ (by simp)).trans (World.alloc_heap_new W0 _), hb1⟩
  refine ⟨W0.heap.size + 1, [{ target := .collected W0.heap.size, args := #[] }], W1, { target := .fn (.func g) lb, args := #[.func (.yield (W0.heap.size + 1)) #[] #[]] }, W1, g,
    #[.func (.yield (W0.heap.size + 1)) #[] #[]] ++ lb, W1, ?_, ?_, ?_, ?_, fun _ => h1, ?_⟩
  · rw [← hW1]; exact run_enterLoop_outer _ _ _ _ _
  · simp [resolve, go_sem]
  · intro f' hf'; simp [Target.leads] at hf'; subst hf'; exact hFg
  · simp [invoke, go_sem, eg]
  · refine (hseq (W0.heap.size + 1) (ApAtSpot w fn (.func (.func g) #[] lb) w.heap.size (W0.heap.size + 1) W0.heap.size) W1 hb1 (ap_abidesSpot _ _ _ _ _ _ _ hb1.size)
      (fun pre x W hJ hl => apYieldSpot F (n - 1 - 1) w fn hfn _ w.heap.size (W0.heap.size + 1) W0.heap.size (by omega) (by omega) (by omega) (Nat.le_refl _) (by omega) N hN hNb pre x W hJ hl) hM).mono ?_
    rintro e W2 ⟨⟨v0, rfl⟩, ss, hS, h2⟩
    obtain ⟨v, hv, hrow, hnil⟩ := h2.box
    have hend := run_endLoop (P := Tryz.prog) h2.L (by simp [apRecSpot])
    obtain ⟨W3, hW3⟩ : ∃ W3, W2.putObj (W0.heap.size + 1) (.loop { apRecSpot fn (.func (.func g) #[] lb) w.heap.size W0.heap.size .ready none with state := .exhausted }) = W3 := ⟨_, rfl⟩
    rw [hW3] at hend
    have hg3 : W2.grownBy W3 (some (W0.heap.size + 1)) := by rw [← hW3]; exact grownBy_putObj_a _ _ _
    have hv3 : W3.heap[w.heap.size]? = some (.cells #[v] 225 (0, 0)) := by rw [← hW3]; exact (World.putObj_heap_other (by omega)).trans hv
    have hK3 : W3.heap[W0.heap.size]? = some (.deferred (some [])) := by rw [← hW3]; exact (World.putObj_heap_other (by omega)).trans h2.K
    have hrow3 := hrow.kept hg3 (ownsRow_ne_a hrow h2.L (fun cur e => by first | cases e | exact hne (Obj.cells.inj e).2.1))
    have hb3 : Below w.heap.size w W3 := h2.below.grown hg3 h2.below.size (fun k e => by cases e; omega)
    obtain ⟨hc3, hf3⟩ := cell_of_box_a hv3
    clear hW3
    refine ⟨none, W3, hend, ?_⟩
    gi_wp2
    rw [← hs0]
    refine ⟨by simp, .inl ⟨_, _, rfl, run_takeDeferred hK3, ?_⟩⟩
    exact ⟨_, results_tmp rfl _ _ _, v, ss, rfl, hS, hrow3.kept (grownBy_putObj_a _ _ _) (ownsRow_ne_a hrow3 hK3 (fun cur e => by first | cases e | exact hne (Obj.cells.inj e).2.1)), hnil, hb3.grown (grownBy_putObj_a _ _ _) hb3.size (fun k e => by cases e; omega)⟩
set_option maxHeartbeats 1000000 in
/-- slices.Collect. -/
theorem collectSpot (F : Fence) (n : Nat) (h8 : F.fn 193) (h11 : F.fn 212) (hro : F.round = none) (hn : 3 ≤ n) (g : Nat) (lb : Array Value) (hFg : F.fn g) (eg : ∀ args w, (callFunc g args).run Tryz.prog w = .ok (.enter g args) w)
    (S : List (Int × Int) → Prop) (N : Nat) (hN : N ≤ maxLen) (hNb : N * 16 ≤ 140737488355328) (w : World) (hseq : SeqGives F (n - 1 - 1) Tryz.prog g lb encSpot' S N w) :
    CallsIn F n Tryz.prog 193 #[.func (.func g) #[] lb] w fun e w' => ∃ (v : Value) (ss : List (Int × Int)), e = .returned v ∧ S ss ∧ w'.ownsRow w.heap.size 202 2 v ss.length (ss.flatMap cellsSpot) ∧ (v = .slice none 0 0 ↔ ss = []) ∧ Below w.heap.size w w' := by
  have h1 : 1 ≤ n := by omega
  refine callsIn_of_wp Tryz.func193 rfl h8 ?_ hro
  simp only [Tryz.ntmps193, List.size_toArray, List.length_cons, List.length_nil, Nat.reduceAdd, Nat.reduceSub, Array.replicate_succ, Array.replicate_zero, List.push_toArray, List.append_toArray, List.nil_append, List.cons_append]
  gi_wp2_with (gi_at_call 212; refine (appendSeqSpot F (n - 1) h11 hro (by omega) g lb hFg eg S N hN hNb _ hseq).mono ?_; rintro e w' ⟨v, ss, rfl, hS, hrow, hnil, hb⟩)
  go_ret
  exact ⟨v, ss, rfl, hS, hrow, hnil, hb⟩
end Go.K
end
section
namespace Go.K
open Go Go.RowKit Go.Sort Go.Proofs
theorem flatMap_get {α : Type} {enc : α → List Value} {k : Nat} (hk : ∀ x, (enc x).length = k) (k0 : 0 < k) : ∀ (ss : List α) (t : Nat) (x : α), ss[t / k]? = some x → (ss.flatMap enc)[t]? = (enc x)[t % k]?
  | [], t, x, h => by simp at h
  | y :: r, t, x, h => by
    rw [List.flatMap_cons]
    by_cases ht : t < k
    · rw [Nat.div_eq_of_lt ht] at h
      cases h
      rw [List.getElem?_append_left (by rw [hk]; exact ht), Nat.mod_eq_of_lt ht]
    · have hd : t / k = (t - k) / k + 1 := by
        conv => lhs; rw [show t = (t - k) + k by omega]
        rw [Nat.add_div_right _ k0]
      have hm : t % k = (t - k) % k := by
        conv => lhs; rw [show t = (t - k) + k by omega]
        rw [Nat.add_mod_right]
      rw [hd, List.getElem?_cons_succ] at h
      rw [List.getElem?_append_right (by rw [hk]; omega), hk, hm]
      exact flatMap_get hk k0 r (t - k) x h
theorem flatMap_len {α : Type} {enc : α → List Value} {k : Nat} (hk : ∀ x, (enc x).length = k) : ∀ ss : List α, (ss.flatMap enc).length = ss.length * k
  | [] => by simp
  | y :: r => by rw [List.flatMap_cons, List.length_append, hk, flatMap_len hk r, List.length_cons, Nat.succ_mul, Nat.add_comm]
theorem flatK_eq {α : Type} [Inhabited α] {enc : α → List Value} {k : Nat} (hk : ∀ x, (enc x).length = k) (k0 : 0 < k) (ss : List α) : flatK enc k ss.toArray = (ss.flatMap enc).toArray := by
  refine ext_get! (by simp [flatMap_len hk]) fun t ht => ?_
  have ht' : t < ss.length * k := by simpa using ht
  rw [get_flatK _ _ _ _ (by simpa using ht')]
  have hlt : t / k < ss.length := Nat.div_lt_of_lt_mul (by rw [Nat.mul_comm]; exact ht')
  have h1 := flatMap_get hk k0 ss t ss[t / k] (List.getElem?_eq_getElem hlt)
  have h2 : (ss.toArray[t / k]!) = ss[t / k] := by
    rw [getElem!_pos ss.toArray (t / k) (by simpa using hlt)]; simp
  rw [h2]
  have hm : t % k < (enc ss[t / k]).length := by rw [hk]; exact Nat.mod_lt _ k0
  have hf : t < (ss.flatMap enc).length := by rw [flatMap_len hk]; exact ht'
  rw [getElem!_pos (enc ss[t / k]) (t % k) hm, getElem!_pos (ss.flatMap enc).toArray t (by simpa using hf)]
  rw [List.getElem?_eq_getElem hf, List.getElem?_eq_getElem hm] at h1
  simpa using (Option.some.inj h1).symm
theorem holds_of_block_id {w : World} {g : Nat} {cur : Array Value} {e : TypeId} {L : List Value} (hb : w.heap[g]? = some (.cells cur e (0, 0))) (ht : cur.toList.take L.length = L) : Holds id w g 0 L.toArray := by
  intro j hj
  have hj' : j < L.length := by simpa using hj
  refine ⟨?_, by simp [World.frozen?, hb]⟩
  have h1 : (cur.toList.take L.length)[j]? = L[j]? := by rw [ht]
  rw [List.getElem?_take_of_lt hj'] at h1
  simp only [World.cell?, hb, Nat.zero_add]
  simp only [Option.isSome_none, Bool.false_eq_true, if_false]
  rw [← Array.getElem?_toList, h1]
  simp [hj']
theorem heap_sorted_id {w : World} {g n : Nat} {os : Array Obj} {cur : Array Value} {e : TypeId} {fr : Nat × Nat} (d : Array Value) (hb : w.heap[g]? = some (.cells cur e fr)) :
    (grow (putRow id (Sort.ahead w n) g 0 d) os).heap[g]? = some (.cells (putCells id 0 d cur) e fr) := by
  have hg : g < w.heap.size := (Array.getElem?_eq_some_iff.1 hb).1
  rw [heap_grow_old _ _ (by simpa using hg)]
  simp [putRow, mapBlock, Sort.ahead, Array.getElem?_modify, hb, onCells]
theorem grownBy_sorted_id {w : World} {g n : Nat} {os : Array Obj} (d : Array Value) : w.grownBy (grow (putRow id (Sort.ahead w n) g 0 d) os) (some g) := by
  refine ⟨rfl, rfl, rfl, by simp, fun k hk hne => ?_⟩
  rw [heap_grow_old _ _ (by simpa using hk)]
  have : g ≠ k := fun e => hne (by rw [e])
  simp [putRow, mapBlock, Sort.ahead, Array.getElem?_modify, this]
theorem take_putCells_id (cur : Array Value) (ts : List Value) (h : ts.length ≤ cur.size) : (putCells id 0 ts.toArray cur).toList.take ts.length = ts := by
  apply List.ext_getElem?
  intro j
  by_cases hj : j < ts.length
  · rw [List.getElem?_take_of_lt hj, Array.getElem?_toList]
    simp [putCells, hj, show j < cur.size by omega]
  · rw [List.getElem?_take_eq_none (by omega), List.getElem?_eq_none (by omega)]
theorem ownsRow_sorted_id {w : World} {base g cap n sz m : Nat} {e : TypeId} {os : Array Obj} {cur : Array Value} {ts : List Value} (hl : ts.length = m * sz) (hbase : base ≤ g) (hb : w.heap[g]? = some (.cells cur e (0, 0)))
    (h1 : m ≤ cap) (h2 : cap ≤ maxLen) (h3 : cur.size = cap * sz) :
    (grow (putRow id (Sort.ahead w n) g 0 ts.toArray) os).ownsRow base e sz (.slice (some ⟨g, 0, none⟩) m cap) m ts :=
  ⟨hl, .inr ⟨g, cap, _, rfl, hbase, heap_sorted_id _ hb, h1, h2, by simp [putCells, h3], by
    rw [← hl]; exact take_putCells_id cur ts (by rw [hl, h3]; exact Nat.mul_le_mul_right _ h1)⟩⟩
theorem grown_of_below {w w' : World} (h : Below w.heap.size w w') (hd : w.drawn ≤ w'.drawn) : ∃ q os', w' = grow (w.drewN q) os' := by
  obtain ⟨p, rfl⟩ := regrown_of_below h
  refine ⟨p.d - w.drawn, p.os, ?_⟩
  have hd' : w.drawn ≤ p.d := hd
  unfold redrawn World.drewN
  congr 2
  omega
theorem perm_sorted_list {α : Type} [Inhabited α] {lt : α → α → Bool} {d d' : Array α} (hp : PermIn 0 d.size d d') (hs : SortedIn lt 0 d.size d') : d'.toList.Perm d.toList ∧ d'.toList.Pairwise fun x y => lt y x = false := by
  obtain ⟨h1, -, h2⟩ := hp
  have e1 : d.extract 0 d.size = d := Array.extract_size
  have e2 : d'.extract 0 d.size = d' := by rw [← h1]; exact Array.extract_size
  rw [e1, e2] at h2
  refine ⟨h2, List.pairwise_iff_getElem.2 fun i j hi hj hij => ?_⟩
  have hi' : i < d'.size := by simpa using hi
  have hj' : j < d'.size := by simpa using hj
  have := hs i j (Nat.zero_le _) hij (by omega)
  rw [getElem!_pos d' j hj', getElem!_pos d' i hi'] at this
  simpa using this
end Go.K
end
section
namespace Go.K
open Go Go.RowKit Go.Proofs Go.Maps Go.Sort Go.Shelf
def cellsAlt (x : Int × Int × Bool × ByteArray × Int) : List Value := [.int .i64 x.1, .int .i64 x.2.1, .bool x.2.2.1, .string x.2.2.2.1, .int .i64 x.2.2.2.2]
def encAlt' (x : Int × Int × Bool × ByteArray × Int) : Value := .agg (cellsAlt x).toArray
theorem infoAlt : (Tryz.prog.info? 223).map (fun i => (i.zero, i.size, i.bytes)) = some (some (.agg #[.int .i64 0, .int .i64 0, .bool false, .string ⟨#[]⟩, .int .i64 0]), 5, 48) := by kernel_rfl
def apAssignAlt : Code := (Code.region 2 #[{ dst := some 5, op := Op.alloc 223, type := 0, pos := "iter.go:51", after := #[], guard := none }, { dst := none, op := Op.store 223 (Operand.tmp 5) (Operand.tmp 7), type := 0, pos := "iter.go:51", after := #[{ on := 0, ground := Ground.data }, { on := 0, ground := Ground.phase }], guard := none }] false)
def apBodyAlt : Code := (Code.block 1 (Code.region 3 #[{ dst := some 8, op := Op.load 220 (Operand.tmp 2), type := 220, pos := "iter.go:52", after := #[], guard := none }, { dst := some 9, op := Op.load 223 (Operand.tmp 5), type := 223, pos := "iter.go:52", after := #[], guard := none }, { dst := some 10, op := Op.buildSlice 220 1 #[(0, Operand.tmp 9)], type := 220, pos := "iter.go:52", after := #[{ on := 1, ground := Ground.data }], guard := none }, { dst := some 11, op := Op.call { callee := Callee.builtin Builtin.append, args := #[Operand.tmp 8, Operand.tmp 10], argTypes := #[220, 220] }, type := 220, pos := "iter.go:52", after := #[{ on := 0, ground := Ground.data }, { on := 2, ground := Ground.data }], guard := none }, { dst := none, op := Op.store 220 (Operand.tmp 2) (Operand.tmp 11), type := 0, pos := "iter.go:52", after := #[{ on := 3, ground := Ground.data }, { on := 3, ground := Ground.chain }, { on := 0, ground := Ground.phase }, { on := 1, ground := Ground.phase }, { on := 2, ground := Ground.phase }, { on := 3, ground := Ground.phase }], guard := none }] false))
def apRecAlt (fn : FuncId) (sv : Value) (Bs D : Nat) (st : LoopState) (pend : Option Code) : Loop :=
  { state := st, pending := pend, fn, tmps := #[.slice none 0 0, sv, .pointer (some ⟨Bs, 0, none⟩), undef, .slice none 0 0, undef, sv, undef, undef, undef, undef, undef, undef], params := #[7], assign := apAssignAlt, body := apBodyAlt, defers := D }
structure ApAtAlt (w0 : World) (fn : FuncId) (sv : Value) (Bs l D : Nat) (ss : List (Int × Int × Bool × ByteArray × Int)) (W : World) : Prop where
  box : ∃ v, W.heap[Bs]? = some (.cells #[v] 220 (0, 0)) ∧ W.ownsRow w0.heap.size 223 5 v ss.length (ss.flatMap cellsAlt) ∧ (v = .slice none 0 0 ↔ ss = [])
  L : W.heap[l]? = some (.loop (apRecAlt fn sv Bs D .ready none))
  K : W.heap[D]? = some (.deferred (some []))
  below : Below w0.heap.size w0 W
theorem ap_abidesAlt (w0 : World) (fn : FuncId) (sv : Value) (Bs l D B : Nat) (hB : w0.heap.size ≤ B) : AbidesFrom B (ApAtAlt w0 fn sv Bs l D) := fun s W W' row h hg hrow => by
  have hrow' : ∀ r, row = some r → ∃ o : Obj, W.heap[r]? = some o ∧ o.isWalk = true := fun r e => (hrow r e).2
  obtain ⟨v, hv, hr, hn⟩ := h.box
  exact ⟨⟨v, (grownBy_keeps hg hrow' hv rfl).trans hv, ownsRow_abides_a hr hg hrow', hn⟩, (grownBy_keeps hg hrow' h.L rfl).trans h.L, (grownBy_keeps hg hrow' h.K rfl).trans h.K,
    h.below.grown hg h.below.size (fun k e => Nat.le_trans hB (hrow k e).1)⟩
set_option maxRecDepth 100000 in
set_option maxHeartbeats 4000000 in
theorem apYieldAlt (F : Fence) (m : Nat) (w0 : World) (fn : FuncId) (hfn : F.fn fn) (sv : Value) (Bs l D : Nat) (hBl : Bs ≠ l) (hDl : D ≠ l) (hDB : D ≠ Bs) (h0B : w0.heap.size ≤ Bs) (h0l : w0.heap.size ≤ l)
    (N : Nat) (hN : N ≤ maxLen) (hNb : N * 48 ≤ 140737488355328) (ss : List (Int × Int × Bool × ByteArray × Int)) (x : Int × Int × Bool × ByteArray × Int) (W : World) (h : ApAtAlt w0 fn sv Bs l D ss W) (hlen : ss.length < N) :
    YieldAt F m Tryz.prog l #[encAlt' x] W fun e W' => e = .returned (.bool true) ∧ ApAtAlt w0 fn sv Bs l D (ss ++ [x]) W' ∧ KeepsWalks W W' := by
  have hne : (220 : Nat) ≠ 223 := by decide
  obtain ⟨i0, hi, hz0, hz1, hz2⟩ := info_parts infoAlt
  obtain ⟨v, hv, hrow, _⟩ := h.box
  refine ⟨fn, #[.slice none 0 0, sv, .pointer (some ⟨Bs, 0, none⟩), undef, .slice none 0 0, undef, sv, encAlt' x, undef, undef, undef, undef, undef], apAssignAlt, apBodyAlt, by simpa [apRecAlt] using run_yield (P := Tryz.prog) (args := #[encAlt' x]) h.L rfl, roundIn_of_wpIn hfn ?_⟩
  have hl0 : l < W.heap.size := (Array.getElem?_eq_some_iff.1 h.L).1
  have hD0 : D < W.heap.size := (Array.getElem?_eq_some_iff.1 h.K).1
  have hB0 : Bs < W.heap.size := (Array.getElem?_eq_some_iff.1 hv).1
  obtain ⟨Wa, hWa⟩ : ∃ Wa, W.alloc (.cells (cellsAlt x).toArray 223) = Wa := ⟨_, rfl⟩
  have hsa : Wa.heap.size = W.heap.size + 1 := by rw [← hWa]; simp
  have holda : ∀ k, k < W.heap.size → Wa.heap[k]? = W.heap[k]? := fun k hk => by rw [← hWa]; exact Below.heap_alloc _ _ k hk
  have hLa : Wa.heap[l]? = some (.loop (apRecAlt fn sv Bs D .ready none)) := (holda l hl0).trans h.L
  have hl : l < Wa.heap.size := by omega
  have hxa : Wa.heap[W.heap.size]? = some (.cells (cellsAlt x).toArray 223 (0, 0)) := by rw [← hWa]; exact World.alloc_heap_new _ _
  have hka : KeepsWalks W Wa := by rw [← hWa]; exact KeepsWalks.alloc _ _
  have hrowa : Wa.ownsRow w0.heap.size 223 5 v ss.length (ss.flatMap cellsAlt) := by rw [← hWa]; exact hrow.alloc _
  have hba : Below w0.heap.size w0 Wa := by rw [← hWa]; exact h.below.alloc h.below.size _
  have hbr := run_beginRound (P := Tryz.prog) hLa rfl
  obtain ⟨W2, hW2⟩ : ∃ W2, Wa.putObj l (.loop { apRecAlt fn sv Bs D .ready none with state := .busy }) = W2 := ⟨_, rfl⟩
  rw [hW2] at hbr
  have hg2 : Wa.grownBy W2 (some l) := by rw [← hW2]; exact grownBy_putObj_a _ _ _
  have hk2 : KeepsWalks W W2 := hka.trans (by rw [← hW2]; exact KeepsWalks.putObj _ hLa rfl)
  have hv2 : W2.heap[Bs]? = some (.cells #[v] 220 (0, 0)) := by rw [← hW2]; exact (World.putObj_heap_other hBl).trans ((holda Bs hB0).trans hv)
  have hK2 : W2.heap[D]? = some (.deferred (some [])) := by rw [← hW2]; exact (World.putObj_heap_other hDl).trans ((holda D hD0).trans h.K)
  have hL2 : W2.heap[l]? = some (.loop { apRecAlt fn sv Bs D .ready none with state := .busy }) := by rw [← hW2]; exact World.putObj_heap_same hl
  have hx2 : W2.heap[W.heap.size]? = some (.cells (cellsAlt x).toArray 223 (0, 0)) := by rw [← hW2]; exact (World.putObj_heap_other (by omega)).trans hxa
  have hrow2 : W2.ownsRow w0.heap.size 223 5 v ss.length (ss.flatMap cellsAlt) := hrowa.kept hg2 (ownsRow_ne_a hrowa hLa (fun cur e => by first | cases e | exact hne (Obj.cells.inj e).2.1))
  have hb2 : Below w0.heap.size w0 W2 := hba.grown hg2 hba.size (fun k e => by cases e; exact h0l)
  obtain ⟨hc2, hf2⟩ := cell_of_box_a hv2
  have hxc := cells_at hx2
  have hx_0 := hxc 0 _ rfl
  have hx_1 := hxc 1 _ rfl
  have hx_2 := hxc 2 _ rfl
  have hx_3 := hxc 3 _ rfl
  have hx_4 := hxc 4 _ rfl
  clear hxc
  have hBlt : Bs < W2.heap.size := (Array.getElem?_eq_some_iff.1 hv2).1
  have hl2 : l < W2.heap.size := (Array.getElem?_eq_some_iff.1 hL2).1
  have hDlt : D < W2.heap.size := (Array.getElem?_eq_some_iff.1 hK2).1
  have ne_of : ∀ {j : Nat} {o : Obj}, W2.heap[j]? = some o → (∀ cur, o ≠ .cells cur 223 (0, 0)) → some j ≠ v.ownBlock := fun hj hno => by
    rcases ownsRow_ne_a hrow2 hj hno with e | e
    · rw [e]; simp
    · exact fun e' => e e'.symm
  clear hW2
  unfold apAssignAlt
  unfold encAlt'
  unfold cellsAlt at hWa ⊢
  gi_wp2_with gi_round_op_a
  unfold apBodyAlt
  have hhold : ∀ (o1 : Obj) k, k < W2.heap.size → (W2.alloc o1).heap[k]? = W2.heap[k]? := fun o1 k hk => Below.heap_alloc _ _ k hk
  gi_wp2_with (first
    | (gi_at_builtin; refine wpListIn_append_own _ rfl _ _ 220 rfl w0.heap.size 223 i0 (.agg #[.int .i64 0, .int .i64 0, .bool false, .string ⟨#[]⟩, .int .i64 0]) 5 48 Tryz.underlying220 hi hz0 hz1 hz2 rfl (by decide) _ _ _ rfl (hrow2.alloc _) ⟨W2.heap.size, 0, none⟩ 1 1 (cellsAlt x) rfl rfl (cells_new _ _ W2.heap.size rfl) (by intro u hu; unfold cellsAlt at hu; simp at hu; rcases hu with rfl | hu <;> first | rfl | (subst hu; rfl) | (rcases hu with rfl | rfl | rfl | rfl <;> rfl)) (by omega) (by omega) (by have := hb2.size; simp; omega) ?_; intro v' w3 hown' hg3 hnil3
       have hv3 : w3.heap[Bs]? = some (.cells #[v] 220 (0, 0)) := (hg3.block Bs (by simp; omega) (ne_of hv2 (fun cur e => by first | cases e | exact hne (Obj.cells.inj e).2.1))).trans ((hhold _ Bs hBlt).trans hv2)
       obtain ⟨hc3, hf3⟩ := cell_of_box_a hv3
       obtain ⟨g', cap', cur', rfl, hbase', hgb', hr1, hr2, hr3, hr4⟩ : ∃ g' cap' cur', v' = .slice (some ⟨g', 0, none⟩) (ss.length + 1) cap' ∧ w0.heap.size ≤ g' ∧ w3.heap[g']? = some (.cells cur' 223 (0, 0)) ∧ ss.length + 1 ≤ cap' ∧ cap' ≤ maxLen ∧ cur'.size = cap' * 5 ∧ cur'.toList.take ((ss.length + 1) * 5) = ss.flatMap cellsAlt ++ cellsAlt x := by
         rcases hown'.2 with ⟨_, h0⟩ | h'
         · exact absurd h0 (by omega)
         · exact h'
       go_frame)
    | gi_round_op_a)
  have hL3 : w3.heap[l]? = some (.loop { apRecAlt fn sv Bs D .ready none with state := .busy }) := (hg3.block l (by simp; omega) (ne_of hL2 (fun cur e => by first | cases e | exact hne (Obj.cells.inj e).2.1))).trans ((hhold _ l hl2).trans hL2)
  have hK3 : w3.heap[D]? = some (.deferred (some [])) := (hg3.block D (by simp; omega) (ne_of hK2 (fun cur e => by first | cases e | exact hne (Obj.cells.inj e).2.1))).trans ((hhold _ D hDlt).trans hK2)
  obtain ⟨w4, hw4⟩ : ∃ w4, w3.setCell ⟨Bs, 0, none⟩ (.slice (some ⟨g', 0, none⟩) (ss.length + 1) cap') = w4 := ⟨_, rfl⟩
  rw [hw4]
  have hg4 : w3.grownBy w4 (some Bs) := by rw [← hw4]; exact grownBy_setCell0_a _ _ _
  have hv4 : w4.heap[Bs]? = some (.cells #[.slice (some ⟨g', 0, none⟩) (ss.length + 1) cap'] 220 (0, 0)) := by rw [← hw4]; exact heap_setCell_box_a _ hv3
  have hL4 : w4.heap[l]? = some (.loop { apRecAlt fn sv Bs D .ready none with state := .busy }) := (hg4.block l (Array.getElem?_eq_some_iff.1 hL3).1 (fun e => hBl (by cases e; rfl))).trans hL3
  have hK4 : w4.heap[D]? = some (.deferred (some [])) := (hg4.block D (Array.getElem?_eq_some_iff.1 hK3).1 (fun e => hDB (by cases e; rfl))).trans hK3
  have hrow4 := hown'.kept hg4 (ownsRow_ne_a hown' hv3 (fun cur e => by first | cases e | exact hne (Obj.cells.inj e).2.1))
  have hl4 : l < w4.heap.size := (Array.getElem?_eq_some_iff.1 hL4).1
  have hb3 : Below w0.heap.size w0 w3 := (hb2.alloc hb2.size _).grown hg3 (by have := hb2.size; simp; omega) (fun k e => (hrow2.lt k e).1)
  have hb4 : Below w0.heap.size w0 w4 := hb3.grown hg4 hb3.size (fun k e => by cases e; exact h0B)
  have hk4 : KeepsWalks W w4 := ((hk2.trans (KeepsWalks.alloc _ _)).trans (KeepsWalks.of_grownBy hg3 (ownsRow_not_walk_a (hrow2.alloc _)))).trans (by rw [← hw4]; exact KeepsWalks.setCell _ _ _)
  clear hw4
  refine ⟨_, _, run_endRound none hL4, rfl, ⟨⟨_, (World.putObj_heap_other hBl).trans hv4, ?_, by simp⟩, World.putObj_heap_same hl4, (World.putObj_heap_other hDl).trans hK4, hb4.grown (grownBy_putObj_a _ _ _) hb4.size (fun k e => by cases e; exact h0l)⟩, hk4.trans (KeepsWalks.putObj _ hL4 rfl)⟩
  have := hrow4.kept (grownBy_putObj_a w4 l (.loop { { apRecAlt fn sv Bs D .ready none with state := .busy } with state := if (none : Option Code).isNone then .ready else .done, pending := none })) (ownsRow_ne_a hrow4 hL4 (fun cur e => by first | cases e | exact hne (Obj.cells.inj e).2.1))
  simpa using this
set_option maxRecDepth 100000 in
set_option maxHeartbeats 4000000 in
theorem appendSeqAlt (F : Fence) (n : Nat) (h11 : F.fn 214) (hro : F.round = none) (hn : 2 ≤ n) (g : Nat) (lb : Array Value) (hFg : F.fn g) (eg : ∀ args w, (callFunc g args).run Tryz.prog w = .ok (.enter g args) w)
    (S : List (Int × Int × Bool × ByteArray × Int) → Prop) (N : Nat) (hN : N ≤ maxLen) (hNb : N * 48 ≤ 140737488355328) (w : World) (hseq : SeqGives F (n - 1) Tryz.prog g lb encAlt' S N w) :
    CallsIn F n Tryz.prog 214 #[.slice none 0 0, .func (.func g) #[] lb] w fun e w' => ∃ (v : Value) (ss : List (Int × Int × Bool × ByteArray × Int)), e = .returned v ∧ S ss ∧ w'.ownsRow w.heap.size 223 5 v ss.length (ss.flatMap cellsAlt) ∧ (v = .slice none 0 0 ↔ ss = []) ∧ Below w.heap.size w w' := by
  have h1 : 1 ≤ n := by omega
  have hne : (220 : Nat) ≠ 223 := by decide
  refine callsIn_of_wp_marks Tryz.func214 rfl h11 ?_ hro
  simp only [Tryz.ntmps214, List.size_toArray, List.length_cons, List.length_nil, Nat.reduceAdd, Nat.reduceSub, Array.replicate_succ, Array.replicate_zero, List.push_toArray, List.append_toArray, List.nil_append, List.cons_append]
  gi_wp2
  refine wpIn_rangeFunc ?_
  intro fn hfn
  rw [hro]
  obtain ⟨W0, hW0⟩ : ∃ W0, w.alloc (.cells #[.slice none 0 0] 220) = W0 := ⟨_, rfl⟩
  have hs0 : W0.heap.size = w.heap.size + 1 := by rw [← hW0]; simp
  have hv0 : W0.heap[w.heap.size]? = some (.cells #[.slice none 0 0] 220 (0, 0)) := by rw [← hW0]; exact World.alloc_heap_new w _
  have hb0 : Below w.heap.size w W0 := by rw [← hW0]; exact (Below.refl _ w).alloc (Nat.le_refl _) _
  rw [hW0]
  obtain ⟨W1, hW1⟩ : ∃ W1, (W0.alloc (.deferred (some []))).alloc (.loop (apRecAlt fn (.func (.func g) #[] lb) w.heap.size W0.heap.size .ready none)) = W1 := ⟨_, rfl⟩
  have hold : ∀ k, k < W0.heap.size → W1.heap[k]? = W0.heap[k]? := fun k hk => by
    rw [← hW1]; exact (Below.heap_alloc _ _ k (by simp; omega)).trans (Below.heap_alloc _ _ k hk)
  have hb1 : Below w.heap.size w W1 := by rw [← hW1]; exact (hb0.alloc hb0.size _).alloc (by have := hb0.size; simp; omega) _
  have hs1 : W1.heap.size = W0.heap.size + 2 := by rw [← hW1]; simp
  have hM : ApAtAlt w fn (.func (.func g) #[] lb) w.heap.size (W0.heap.size + 1) W0.heap.size [] W1 :=
    ⟨⟨_, (hold w.heap.size (by omega)).trans hv0, ⟨rfl, .inl ⟨rfl, rfl⟩⟩, by simp⟩,
     by rw [← hW1]; have := World.alloc_heap_new (W0.alloc (.deferred (some []))) (.loop (apRecAlt fn (.func (.func g) #[] lb) w.heap.size W0.heap.size .ready none)); rwa [World.size_alloc] at this,
     by rw [← hW1]; exact (Below.heap_alloc _ _ _ (by simp)).trans (World.alloc_heap_new W0 _), hb1⟩
  refine ⟨W0.heap.size + 1, [{ target := .collected W0.heap.size, args := #[] }], W1, { target := .fn (.func g) lb, args := #[.func (.yield (W0.heap.size + 1)) #[] #[]] }, W1, g,
    #[.func (.yield (W0.heap.size + 1)) #[] #[]] ++ lb, W1, ?_, ?_, ?_, ?_, fun _ => h1, ?_⟩
  · rw [← hW1]; exact run_enterLoop_outer _ _ _ _ _
  · simp [resolve, go_sem]
  · intro f' hf'; simp [Target.leads] at hf'; subst hf'; exact hFg
  · simp [invoke, go_sem, eg]
  · refine (hseq (W0.heap.size + 1) (ApAtAlt w fn (.func (.func g) #[] lb) w.heap.size (W0.heap.size + 1) W0.heap.size) W1 hb1 (ap_abidesAlt _ _ _ _ _ _ _ hb1.size)
      (fun pre x W hJ hl => apYieldAlt F (n - 1 - 1) w fn hfn _ w.heap.size (W0.heap.size + 1) W0.heap.size (by omega) (by omega) (by omega) (Nat.le_refl _) (by omega) N hN hNb pre x W hJ hl) hM).mono ?_
    rintro e W2 ⟨⟨v0, rfl⟩, ss, hS, h2⟩
    obtain ⟨v, hv, hrow, hnil⟩ := h2.box
    have hend := run_endLoop (P := Tryz.prog) h2.L (by simp [apRecAlt])
    obtain ⟨W3, hW3⟩ : ∃ W3, W2.putObj (W0.heap.size + 1) (.loop { apRecAlt fn (.func (.func g) #[] lb) w.heap.size W0.heap.size .ready none with state := .exhausted }) = W3 := ⟨_, rfl⟩
    rw [hW3] at hend
    have hg3 : W2.grownBy W3 (some (W0.heap.size + 1)) := by rw [← hW3]; exact grownBy_putObj_a _ _ _
    have hv3 : W3.heap[w.heap.size]? = some (.cells #[v] 220 (0, 0)) := by rw [← hW3]; exact (World.putObj_heap_other (by omega)).trans hv
    have hK3 : W3.heap[W0.heap.size]? = some (.deferred (some [])) := by rw [← hW3]; exact (World.putObj_heap_other (by omega)).trans h2.K
    have hrow3 := hrow.kept hg3 (ownsRow_ne_a hrow h2.L (fun cur e => by first | cases e | exact hne (Obj.cells.inj e).2.1))
    have hb3 : Below w.heap.size w W3 := h2.below.grown hg3 h2.below.size (fun k e => by cases e; omega)
    obtain ⟨hc3, hf3⟩ := cell_of_box_a hv3
    clear hW3
    refine ⟨none, W3, hend, ?_⟩
    gi_wp2
    rw [← hs0]
    refine ⟨by simp, .inl ⟨_, _, rfl, run_takeDeferred hK3, ?_⟩⟩
    exact ⟨_, results_tmp rfl _ _ _, v, ss, rfl, hS, hrow3.kept (grownBy_putObj_a _ _ _) (ownsRow_ne_a hrow3 hK3 (fun cur e => by first | cases e | exact hne (Obj.cells.inj e).2.1)), hnil, hb3.grown (grownBy_putObj_a _ _ _) hb3.size (fun k e => by cases e; omega)⟩
set_option maxHeartbeats 1000000 in
/-- slices.Collect. -/
theorem collectAlt (F : Fence) (n : Nat) (h8 : F.fn 196) (h11 : F.fn 214) (hro : F.round = none) (hn : 3 ≤ n) (g : Nat) (lb : Array Value) (hFg : F.fn g) (eg : ∀ args w, (callFunc g args).run Tryz.prog w = .ok (.enter g args) w)
    (S : List (Int × Int × Bool × ByteArray × Int) → Prop) (N : Nat) (hN : N ≤ maxLen) (hNb : N * 48 ≤ 140737488355328) (w : World) (hseq : SeqGives F (n - 1 - 1) Tryz.prog g lb encAlt' S N w) :
    CallsIn F n Tryz.prog 196 #[.func (.func g) #[] lb] w fun e w' => ∃ (v : Value) (ss : List (Int × Int × Bool × ByteArray × Int)), e = .returned v ∧ S ss ∧ w'.ownsRow w.heap.size 223 5 v ss.length (ss.flatMap cellsAlt) ∧ (v = .slice none 0 0 ↔ ss = []) ∧ Below w.heap.size w w' := by
  have h1 : 1 ≤ n := by omega
  refine callsIn_of_wp Tryz.func196 rfl h8 ?_ hro
  simp only [Tryz.ntmps196, List.size_toArray, List.length_cons, List.length_nil, Nat.reduceAdd, Nat.reduceSub, Array.replicate_succ, Array.replicate_zero, List.push_toArray, List.append_toArray, List.nil_append, List.cons_append]
  gi_wp2_with (gi_at_call 214; refine (appendSeqAlt F (n - 1) h11 hro (by omega) g lb hFg eg S N hN hNb _ hseq).mono ?_; rintro e w' ⟨v, ss, rfl, hS, hrow, hnil, hb⟩)
  go_ret
  exact ⟨v, ss, rfl, hS, hrow, hnil, hb⟩
end Go.K
end
