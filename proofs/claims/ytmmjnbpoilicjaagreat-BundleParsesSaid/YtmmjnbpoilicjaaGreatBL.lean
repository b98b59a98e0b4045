/- Contracts of the sorted collections, and of awake: it returns true in any world. -/
import Derived.Test.YtmmjnbpoilicjaaGreatBK
import Derived.Test.YtmmjnbpoilicjaaGreatBKSh
import Derived.Test.YtmmjnbpoilicjaaGreatBP
import Derived.Shelf.SlIterI.Sorted
import Derived.Shelf.SortM.Plain
import Derived.Shelf.SortM.SortNone
import Derived.Test.YtmmjnbpoilicjaaGreatBE5
import Derived.Test.YtmmjnbpoilicjaaGreatBEAwakeRun
import Derived.Test.YtmmjnbpoilicjaaGreatBEFirstRun
set_option linter.unusedVariables false
set_option linter.unusedSimpArgs false
section
namespace Go.K
open Go Go.RowKit Go.Proofs Go.Maps Go.Sort Go.Shelf Go.Lib
def cfSpot (x y : Int × Int) : Int := E.cmpN x.1 y.1 (E.cmpN x.2 y.2 0)
theorem ltSpot_swo : SWO (ltOf cfSpot) where
  irrefl x := by unfold ltOf cfSpot; simp [E.cmpN]
  trans x y z h1 h2 := by
    unfold ltOf cfSpot E.cmpN at *
    simp only [decide_eq_true_eq] at *
    repeat' split at h1
    all_goals repeat' split at h2
    all_goals (first | omega | (repeat' split) <;> omega)
  ntrans x y z h1 h2 := by
    unfold ltOf cfSpot E.cmpN at *
    simp only [decide_eq_false_iff_not] at *
    repeat' split at h1
    all_goals repeat' split at h2
    all_goals (first | omega | (repeat' split) <;> omega)
set_option maxHeartbeats 1000000 in
theorem closureSpot (x y : Int × Int) (W : World) : Calls Tryz.prog 162 #[.agg (cellsSpot x).toArray, .agg (cellsSpot y).toArray] W fun e w' => e = .returned (.int .i64 (cfSpot x y)) ∧ ∃ q os', w' = grow (W.drewN q) os' :=
  (Go.Proofs.YtmmjnbpoilicjaaGreat.PBundleParses.recursive_compare.calls 4 x.1 x.2 y.1 y.2 _ W (E.cmp_is x.1 x.2 y.1 y.2)).mono fun e w' ⟨h1, h2, h3⟩ => ⟨h1, grown_of_below h2 h3⟩
theorem sortSpot (blk cap : Nat) (ss : List (Int × Int)) (w : World) (hH : HoldsK cellsSpot 2 w blk 0 ss.toArray) (hblk : blk < w.heap.size) (hsz : ss.length < 4611686018427387904) :
    Calls Tryz.prog 194 #[.slice (some ⟨blk, 0, none⟩) ss.length cap, .func (.func 162) #[] #[]] w fun e w' => e = .returned (.tuple #[]) ∧ ∃ (ts : List (Int × Int)) (n : Nat) (os : Array Obj), ts.Perm ss ∧ (ts.Pairwise fun x y => ltOf cfSpot y x = false) ∧ w' = sortWorldK cellsSpot 2 w blk 0 n ts.toArray os := by
  have h := AnyQ.slices_SortFunc Tryz.sortSpot 2 Tryz.isAgg202 Tryz.sizeOf202 cellsSpot (fun _ => rfl) (fun x v hv => by unfold cellsSpot at hv; simp at hv; rcases hv with rfl | hv <;> first | rfl | (subst hv; rfl) | (rcases hv with rfl | rfl | rfl | rfl <;> rfl)) cfSpot ltSpot_swo 162 #[] blk 0 cap ss.toArray w (enters_of Tryz.func162 (by kernel_rfl) rfl) (fun _ _ _ _ x y => closureSpot x y _) hH hblk (by simpa using hsz)
  refine h.mono ?_
  rintro e w' ⟨he, d', n, os, hp, hs, hw⟩
  obtain ⟨h1, h2⟩ := perm_sorted_list hp hs
  exact ⟨he, d'.toList, n, os, h1, h2, hw⟩
set_option maxHeartbeats 2000000 in
theorem sortedFuncSpot (g : Nat) (lb : Array Value) (eg : ∀ args w, (callFunc g args).run Tryz.prog w = .ok (.enter g args) w) (S : List (Int × Int) → Prop) (N : Nat) (hN : N ≤ maxLen) (hNb : N * 16 ≤ 140737488355328) (w : World)
    (hseq : SeqGives Fence.wide 2 Tryz.prog g lb encSpot' S N w) :
    Calls Tryz.prog 160 #[.func (.func g) #[] lb, .func (.func 162) #[] #[]] w fun e w' => ∃ (v : Value) (ss ts : List (Int × Int)), e = .returned v ∧ S ss ∧ ts.Perm ss ∧ (ts.Pairwise fun x y => ltOf cfSpot y x = false) ∧
      w'.ownsRow w.heap.size 202 2 v ts.length (ts.flatMap cellsSpot) ∧ (v = .slice none 0 0 ↔ ss = []) ∧ Below w.heap.size w w' := by
  have hC := (callsIn_wide (n := 4)).1 (collectSpot Fence.wide 4 trivial trivial rfl (by omega) g lb trivial eg (fun xs => S xs ∧ xs.length ≤ N) N hN hNb w hseq.bounded)
  go_enter Tryz.func160, Tryz.ntmps160
  go_wp2_with (go_at_call 193; refine hC.mono ?_; rintro e W ⟨v, ss, rfl, ⟨hS, hlen⟩, hrow, hnil, hb⟩)
  clear hC hseq
  rcases hrow.2 with ⟨rfl, hz⟩ | ⟨gb, cap, cur, rfl, hbase, hgb, r1, r2, r3, r4⟩
  · have hss : ss = [] := List.eq_nil_of_length_eq_zero hz
    subst hss
    have hno := fun W => AnyF.slices_SortFunc_none (P := Tryz.prog) { Tryz.sortSpot with } none 0 (.func (.func 162) #[] #[]) W
    change ∀ W, Calls Tryz.prog 194 _ _ _ at hno
    go_wp2_with (go_at_call 194; refine (hno W).mono ?_; rintro e w' ⟨rfl, rfl⟩)
    go_ret
    exact ⟨.slice none 0 0, [], [], rfl, hS, .nil, .nil, hrow, by simp, hb⟩
  · have hml : (maxLen : Nat) ≤ 9223372036854775807 := by decide
    have hH : HoldsK cellsSpot 2 W gb 0 ss.toArray := by
      unfold HoldsK
      rw [flatK_eq (enc := cellsSpot) (k := 2) (fun _ => rfl) (by decide)]
      exact holds_of_block_id hgb (by rw [flatMap_len (enc := cellsSpot) (k := 2) (fun _ => rfl)]; exact r4)
    have hgl : gb < W.heap.size := (Array.getElem?_eq_some_iff.1 hgb).1
    have hsz : ss.length < 4611686018427387904 := by omega
    have cS := sortSpot gb cap ss W hH hgl hsz
    clear hH
    go_wp2_with (go_at_call 194; refine cS.mono ?_; rintro e w' ⟨rfl, ts, n, os, hp, hs, rfl⟩)
    have hl : ts.length = ss.length := hp.length_eq
    have hw : sortWorldK cellsSpot 2 W gb 0 n ts.toArray os = grow (putRow id (Sort.ahead W n) gb 0 (ts.flatMap cellsSpot).toArray) os := by
      unfold sortWorldK putRowK
      rw [flatK_eq (enc := cellsSpot) (k := 2) (fun _ => rfl) (by decide)]
    generalize sortWorldK cellsSpot 2 W gb 0 n ts.toArray os = W2 at hw ⊢
    subst hw
    go_ret
    refine ⟨_, ss, ts, rfl, hS, hp, hs, ?_, hnil, hb.grown (grownBy_sorted_id _) hb.size (fun j hj => by cases hj; exact hbase)⟩
    have := ownsRow_sorted_id (w := W) (base := w.heap.size) (g := gb) (cap := cap) (n := n) (sz := 2) (m := ts.length) (e := 202) (os := os) (ts := ts.flatMap cellsSpot) (flatMap_len (enc := cellsSpot) (k := 2) (fun _ => rfl) ts) hbase hgb (by omega) r2 r3
    rw [hl] at this ⊢
    exact this
end Go.K
end
section
namespace Go.K
open Go Go.RowKit Go.Proofs Go.Maps Go.Sort Go.Shelf Go.Lib
def cfAlt (x y : Int × Int × Bool × ByteArray × Int) : Int := E.cmpN x.1 y.1 0
theorem ltAlt_swo : SWO (ltOf cfAlt) where
  irrefl x := by unfold ltOf cfAlt; simp [E.cmpN]
  trans x y z h1 h2 := by
    unfold ltOf cfAlt E.cmpN at *
    simp only [decide_eq_true_eq] at *
    repeat' split at h1
    all_goals repeat' split at h2
    all_goals (first | omega | (repeat' split) <;> omega)
  ntrans x y z h1 h2 := by
    unfold ltOf cfAlt E.cmpN at *
    simp only [decide_eq_false_iff_not] at *
    repeat' split at h1
    all_goals repeat' split at h2
    all_goals (first | omega | (repeat' split) <;> omega)
set_option maxHeartbeats 1000000 in
theorem closureAlt (x y : Int × Int × Bool × ByteArray × Int) (W : World) : Calls Tryz.prog 165 #[.agg (cellsAlt x).toArray, .agg (cellsAlt y).toArray] W fun e w' => e = .returned (.int .i64 (cfAlt x y)) ∧ ∃ q os', w' = grow (W.drewN q) os' := by
  have hcon := fun W' => Go.Proofs.YtmmjnbpoilicjaaGreat.PBundleParses.cmp_Compare_int.calls x.1 y.1 _ W' (E.cmp_one x.1 y.1)
  unfold cfAlt cellsAlt
  generalize E.cmpN x.1 y.1 0 = r at hcon ⊢
  go_enter Tryz.func165, Tryz.ntmps165
  go_wp2_with (go_at_call 166; refine (hcon _).mono ?_; rintro e w' ⟨rfl, ⟨nd, rfl⟩⟩)
  go_ret
  exact ⟨rfl, nd, _, by rw [alloc_eq_grow, alloc_eq_grow, grow_grow]; rfl⟩
theorem sortAlt (blk cap : Nat) (ss : List (Int × Int × Bool × ByteArray × Int)) (w : World) (hH : HoldsK cellsAlt 5 w blk 0 ss.toArray) (hblk : blk < w.heap.size) (hsz : ss.length < 4611686018427387904) :
    Calls Tryz.prog 197 #[.slice (some ⟨blk, 0, none⟩) ss.length cap, .func (.func 165) #[] #[]] w fun e w' => e = .returned (.tuple #[]) ∧ ∃ (ts : List (Int × Int × Bool × ByteArray × Int)) (n : Nat) (os : Array Obj), ts.Perm ss ∧ (ts.Pairwise fun x y => ltOf cfAlt y x = false) ∧ w' = sortWorldK cellsAlt 5 w blk 0 n ts.toArray os := by
  have h := AnyQ.slices_SortFunc Tryz.sortAlt 5 Tryz.isAgg223 Tryz.sizeOf223 cellsAlt (fun _ => rfl) (fun x v hv => by unfold cellsAlt at hv; simp at hv; rcases hv with rfl | hv <;> first | rfl | (subst hv; rfl) | (rcases hv with rfl | rfl | rfl | rfl <;> rfl)) cfAlt ltAlt_swo 165 #[] blk 0 cap ss.toArray w (enters_of Tryz.func165 (by kernel_rfl) rfl) (fun _ _ _ _ x y => closureAlt x y _) hH hblk (by simpa using hsz)
  refine h.mono ?_
  rintro e w' ⟨he, d', n, os, hp, hs, hw⟩
  obtain ⟨h1, h2⟩ := perm_sorted_list hp hs
  exact ⟨he, d'.toList, n, os, h1, h2, hw⟩
set_option maxHeartbeats 2000000 in
theorem sortedFuncAlt (g : Nat) (lb : Array Value) (eg : ∀ args w, (callFunc g args).run Tryz.prog w = .ok (.enter g args) w) (S : List (Int × Int × Bool × ByteArray × Int) → Prop) (N : Nat) (hN : N ≤ maxLen) (hNb : N * 48 ≤ 140737488355328) (w : World)
    (hseq : SeqGives Fence.wide 2 Tryz.prog g lb encAlt' S N w) :
    Calls Tryz.prog 163 #[.func (.func g) #[] lb, .func (.func 165) #[] #[]] w fun e w' => ∃ (v : Value) (ss ts : List (Int × Int × Bool × ByteArray × Int)), e = .returned v ∧ S ss ∧ ts.Perm ss ∧ (ts.Pairwise fun x y => ltOf cfAlt y x = false) ∧
      w'.ownsRow w.heap.size 223 5 v ts.length (ts.flatMap cellsAlt) ∧ (v = .slice none 0 0 ↔ ss = []) ∧ Below w.heap.size w w' := by
  have hC := (callsIn_wide (n := 4)).1 (collectAlt Fence.wide 4 trivial trivial rfl (by omega) g lb trivial eg (fun xs => S xs ∧ xs.length ≤ N) N hN hNb w hseq.bounded)
  go_enter Tryz.func163, Tryz.ntmps163
  go_wp2_with (go_at_call 196; refine hC.mono ?_; rintro e W ⟨v, ss, rfl, ⟨hS, hlen⟩, hrow, hnil, hb⟩)
  clear hC hseq
  rcases hrow.2 with ⟨rfl, hz⟩ | ⟨gb, cap, cur, rfl, hbase, hgb, r1, r2, r3, r4⟩
  · have hss : ss = [] := List.eq_nil_of_length_eq_zero hz
    subst hss
    have hno := fun W => AnyF.slices_SortFunc_none (P := Tryz.prog) { Tryz.sortAlt with } none 0 (.func (.func 165) #[] #[]) W
    change ∀ W, Calls Tryz.prog 197 _ _ _ at hno
    go_wp2_with (go_at_call 197; refine (hno W).mono ?_; rintro e w' ⟨rfl, rfl⟩)
    go_ret
    exact ⟨.slice none 0 0, [], [], rfl, hS, .nil, .nil, hrow, by simp, hb⟩
  · have hml : (maxLen : Nat) ≤ 9223372036854775807 := by decide
    have hH : HoldsK cellsAlt 5 W gb 0 ss.toArray := by
      unfold HoldsK
      rw [flatK_eq (enc := cellsAlt) (k := 5) (fun _ => rfl) (by decide)]
      exact holds_of_block_id hgb (by rw [flatMap_len (enc := cellsAlt) (k := 5) (fun _ => rfl)]; exact r4)
    have hgl : gb < W.heap.size := (Array.getElem?_eq_some_iff.1 hgb).1
    have hsz : ss.length < 4611686018427387904 := by omega
    have cS := sortAlt gb cap ss W hH hgl hsz
    clear hH
    go_wp2_with (go_at_call 197; refine cS.mono ?_; rintro e w' ⟨rfl, ts, n, os, hp, hs, rfl⟩)
    have hl : ts.length = ss.length := hp.length_eq
    have hw : sortWorldK cellsAlt 5 W gb 0 n ts.toArray os = grow (putRow id (Sort.ahead W n) gb 0 (ts.flatMap cellsAlt).toArray) os := by
      unfold sortWorldK putRowK
      rw [flatK_eq (enc := cellsAlt) (k := 5) (fun _ => rfl) (by decide)]
    generalize sortWorldK cellsAlt 5 W gb 0 n ts.toArray os = W2 at hw ⊢
    subst hw
    go_ret
    refine ⟨_, ss, ts, rfl, hS, hp, hs, ?_, hnil, hb.grown (grownBy_sorted_id _) hb.size (fun j hj => by cases hj; exact hbase)⟩
    have := ownsRow_sorted_id (w := W) (base := w.heap.size) (g := gb) (cap := cap) (n := n) (sz := 5) (m := ts.length) (e := 223) (os := os) (ts := ts.flatMap cellsAlt) (flatMap_len (enc := cellsAlt) (k := 5) (fun _ => rfl) ts) hbase hgb (by omega) r2 r3
    rw [hl] at this ⊢
    exact this
end Go.K
end
section
namespace Go.K
open Go Go.RowKit Go.Proofs Go.Maps Go.Sort Go.Shelf
set_option maxRecDepth 100000 in
set_option maxHeartbeats 1000000 in
theorem valuesOne_gives (F : Fence) (n : Nat) (h10 : F.fn 198) (hro : F.round = none) (hn : 1 ≤ n) (Bm g off cap : Nat) (x : Int × Int × Bool × ByteArray × Int) (w : World) (hBm : Bm < w.heap.size) (hg : g < w.heap.size)
    (hm : w.cell? ⟨Bm, 0, none⟩ = some (.slice (some ⟨g, off, none⟩) 1 cap)) (h0 : w.cell? ⟨g, off, none⟩ = some (.int .i64 x.1)) (h1 : w.cell? ⟨g, off + 1, none⟩ = some (.int .i64 x.2.1)) (h2 : w.cell? ⟨g, off + 2, none⟩ = some (.bool x.2.2.1)) (h3 : w.cell? ⟨g, off + 3, none⟩ = some (.string x.2.2.2.1)) (h4 : w.cell? ⟨g, off + 4, none⟩ = some (.int .i64 x.2.2.2.2)) :
    SeqGives F n Tryz.prog 198 #[.pointer (some ⟨Bm, 0, none⟩)] encAlt' (fun ss => ss = [x]) 1 w := fun l J W hW hJ hY hJ0 => by
  have hmW : W.cell? ⟨Bm, 0, none⟩ = some (.slice (some ⟨g, off, none⟩) 1 cap) := (hW.cell (p := ⟨Bm, 0, none⟩) hBm).trans hm
  have c0 : W.cell? ⟨g, off, none⟩ = some (.int .i64 x.1) := (hW.cell (p := ⟨g, off, none⟩) hg).trans h0
  have c1 : W.cell? ⟨g, off + 1, none⟩ = some (.int .i64 x.2.1) := (hW.cell (p := ⟨g, off + 1, none⟩) hg).trans h1
  have c2 : W.cell? ⟨g, off + 2, none⟩ = some (.bool x.2.2.1) := (hW.cell (p := ⟨g, off + 2, none⟩) hg).trans h2
  have c3 : W.cell? ⟨g, off + 3, none⟩ = some (.string x.2.2.2.1) := (hW.cell (p := ⟨g, off + 3, none⟩) hg).trans h3
  have c4 : W.cell? ⟨g, off + 4, none⟩ = some (.int .i64 x.2.2.2.2) := (hW.cell (p := ⟨g, off + 4, none⟩) hg).trans h4
  clear hm h0 h1 h2 h3 h4 hW
  refine callsIn_of_wp Tryz.func198 rfl h10 ?_ hro
  simp only [Tryz.ntmps198, List.size_toArray, List.length_cons, List.length_nil, Nat.reduceAdd, Nat.reduceSub, Array.replicate_succ, Array.replicate_zero, List.push_toArray, List.append_toArray, List.nil_append, List.cons_append]
  gi_wp2
  gi_loopw [4, 7] (fun _ v7 wr => (v7 = .int .i64 0 ∧ wr = W) ∨ (v7 = .int .i64 1 ∧ J [x] wr))
    (fun _ v7 _ => match v7 with | .int _ n => (1 - n).toNat | _ => 0)
  case atStart => exact .inl ⟨rfl, rfl⟩
  case round =>
    rcases hrel with ⟨rfl, rfl⟩ | ⟨rfl, hJ1⟩
    · have hJ2 : J [] (wr.alloc (.cells #[.int .i64 x.1, .int .i64 x.2.1, .bool x.2.2.1, .string x.2.2.2.1, .int .i64 x.2.2.2.2] 223)) := hJ [] wr _ none hJ0 ⟨rfl, rfl, rfl, by simp, fun k hk _ => Below.heap_alloc _ _ k hk⟩ (fun r e => by cases e)
      obtain ⟨fn, tmps, assign, body, hy, hR⟩ := hY [] x _ hJ2 (by simp)
      have hy : (Instr.yield l #[.agg #[.int .i64 x.1, .int .i64 x.2.1, .bool x.2.2.1, .string x.2.2.2.1, .int .i64 x.2.2.2.2]]).run Tryz.prog (wr.alloc (.cells #[.int .i64 x.1, .int .i64 x.2.1, .bool x.2.2.1, .string x.2.2.2.1, .int .i64 x.2.2.2.2] 223)) = _ := hy
      gi_wp2
      refine hR.mono ?_
      rintro e W3 ⟨rfl, hJ3, hk3⟩
      gi_wp2
      go_roundw
      case rel => exact .inr ⟨rfl, hJ3⟩
      case measure => decide
    · gi_wp2
      go_end0
      exact ⟨⟨_, rfl⟩, [x], rfl, hJ1⟩
end Go.K
end
section
namespace Go.K
open Go Go.RowKit Go.Proofs Go.Maps Go.Sort Go.Shelf
theorem sortsA (m : Nat) : AnyZI.SortsIn Tryz.prog Tryz.sortedA_ren Fence.wide m :=
  ⟨fun blk off cap ss W hH hblk hsz => callsIn_wide.2 (AnyM.slices_Sort_int Tryz.sortA blk off cap ss W hH hblk hsz), fun p cap W => callsIn_wide.2 (AnyM.slices_Sort_int_none Tryz.sortA p cap W)⟩
theorem sortedInt (g : Nat) (lb : Array Value) (eg : ∀ args w, (callFunc g args).run Tryz.prog w = .ok (.enter g args) w) (S : List Int → Prop) (N : Nat) (hN : N ≤ maxLen) (hNb : N * 8 ≤ 140737488355328) (w : World) (hseq : SeqGives Fence.wide 2 Tryz.prog g lb encZ S N w) :
    Calls Tryz.prog 61 #[.func (.func g) #[] lb] w fun e w' => ∃ (v : Value) (ss : List Int), e = .returned v ∧ S ss ∧ w'.ownsRow w.heap.size 3 1 v ss.length ((ss.mergeSort (fun x y => decide (x ≤ y))).map encZ) ∧ (v = .slice none 0 0 ↔ ss = []) ∧ Below w.heap.size w w' :=
  (callsIn_wide (n := 5)).1 (AnyZI.sorted_in Tryz.sortedA Fence.wide 5 trivial trivial trivial trivial rfl (by omega) (sortsA _) (enters_of Tryz.func25 (by kernel_rfl) rfl) g lb trivial eg S N hN hNb w hseq)
end Go.K
end
section
namespace Go.E
open Go Go.RowKit Go.Proofs
theorem prim_indexByte0 : PrimOk Tryz.prog 266 pIndexByte :=
  prim_indexByte Tryz.func266 rfl (by kernel_rfl) (by kernel_rfl) (by kernel_rfl)
theorem callFunc_enter {P : Program} {f : Nat} {fn : Func} {b : Code} (hf : P.funcs[f]? = some fn) (hb : fn.body = some b) (hn : (fn.name == "runtime.NumGoroutine") = false) (args : Array Value) (w : World) : (callFunc f args).run P w = .ok (.enter f args) w := by
  simp [callFunc, hf, run_program, hb]
  simpa using hn
def decZ : Value → Int
  | .int _ n => n
  | _ => 0
theorem prim_sortedInt : PrimOk Tryz.prog 61 (pSortedInt 103) := by
  refine ⟨fun args => ?_, fun B0 L G w ds vs σ d σ' hrun hr hg I hB0 hL => ?_⟩
  · unfold pSortedInt
    split
    · exact Ok.cond (ok_keysIn _ _ fun ks => ok_someInts _ fun l => ok_rowInts _) Ok.fail
    · exact Ok.fail
  · unfold pSortedInt at hrun
    split at hrun
    · rename_i f b e
      obtain ⟨hf, hrun2⟩ := cond_fail_inv hrun
      clear hrun
      obtain rfl := Nat.eq_of_beq_eq_true hf
      obtain ⟨v0, r0, rfl, e0, hr0⟩ := Reps.cons_iff.1 hr
      rw [Reps.nil_iff] at hr0
      subst hr0
      rw [Rep] at e0
      obtain ⟨us, cs, rfl, hus, hcs⟩ := e0
      rw [Reps.nil_iff] at hus
      subst hus
      obtain ⟨p, r1, rfl, hp, hr1⟩ := Reps.cons_iff.1 hcs
      rw [Reps.nil_iff] at hr1
      subst hr1
      obtain ⟨Bm, bm, es, clk, ks, σ1, rfl, hBm, hm, hb, hks, hold, hnd, hc1, hs1, hrun3⟩ := keysIn_world hrun2 (fun ks => ok_someInts _ fun l => ok_rowInts _) hg I hp
      obtain ⟨l, rfl, hlen, hrun4⟩ := someInts_inv hrun3
      have hxs : es.toList.map (·.key) = l.map encZ := reps_ints hks
      have hseq := K.keysInt_gives encZ decZ (fun _ => rfl) Fence.wide 2 trivial rfl (by omega) Bm bm es clk l hxs hold hnd w hBm hm hb
      have hmax : (100000 : Nat) ≤ maxLen := by decide
      have hC := K.sortedInt _ _ (enters_of Tryz.func103 (by kernel_rfl) rfl) _ l.length (by omega) (by omega) w hseq
      refine .inl ⟨callFunc_enter Tryz.func61 rfl rfl _ _, hC.mono fun ee w' he => ?_⟩
      obtain ⟨v, ss, rfl, hS, hown, hnil, hbel⟩ := he
      have hperm : ss.Perm l := hS
      have hsort : ss.mergeSort (fun x y => decide (x ≤ y)) = sortZ l := by
        refine List.Perm.eq_of_pairwise (le := fun a b => a ≤ b) (fun a b _ _ h h' => by omega) ?_ ?_ (((List.mergeSort_perm ss _).trans hperm).trans (sortZ_perm l).symm)
        · exact (List.pairwise_mergeSort (le := fun x y => decide (x ≤ y)) (fun a b c h h' => by simp at *; omega) (fun a b => by simp; omega) ss).imp fun h => by simpa using h
        · exact (sortZ_sorted l).imp fun h => by rw [leZ_eq] at h; simpa using h
      rw [hsort] at hown
      have hsl : ss.length = (sortZ l).length := (hperm.trans (sortZ_perm l).symm).length_eq
      have hm : (ss.length = 0 → rowInts (sortZ l) = pur nilS) ∧ (1 ≤ ss.length → rowInts (sortZ l) = bind (newRow ((sortZ l).map (DV.int .i64))) fun nn => pur (.sl nn 0 0 1 ss.length none)) := by
        refine ⟨fun h0 => ?_, fun h0 => ?_⟩
        · have : sortZ l = [] := List.eq_nil_of_length_eq_zero (by omega)
          rw [this]; rfl
        · have hne : sortZ l ≠ [] := fun h => by rw [h] at hsl; simp at hsl; subst hsl; simp at h0
          unfold rowInts
          split
          · rename_i h; exact (hne h).elim
          · rename_i x r h
            rw [mapR_eq, seqLD_eq, hsl, h]
            simp only [seqN_eq, lenR_eq, List.length_map]
      obtain ⟨G'', g1, g2, g3, g4⟩ := rowAny_answer hm hrun4 hc1 hs1 I hbel hB0 hL hown (Nat.le_refl _) (fun h0 => hnil.2 (List.eq_nil_of_length_eq_zero h0)) (G0 := G) (ints_reps _) (plain_ints _)
      exact ⟨v, G'', rfl, g1, g2, g3, g4⟩
    · exact (fail_inv hrun).elim
theorem prim_sortedSpot : PrimOk Tryz.prog 160 (pSortedSpot 195 162) := by
  refine ⟨fun args => ?_, fun B0 L G w ds vs σ d σ' hrun hr hg I hB0 hL => ?_⟩
  · unfold pSortedSpot
    split
    · exact Ok.cond (ok_keysIn _ _ fun ks => ok_someSpots _ fun l => ok_rowSpots _) Ok.fail
    · exact Ok.fail
  · unfold pSortedSpot at hrun
    split at hrun
    · rename_i f b e h
      obtain ⟨hf, hrun2⟩ := cond_fail_inv hrun
      clear hrun
      rw [Bool.and_eq_true] at hf
      obtain rfl := Nat.eq_of_beq_eq_true hf.1
      obtain rfl := Nat.eq_of_beq_eq_true hf.2
      obtain ⟨v0, r0, rfl, e0, hr0⟩ := Reps.cons_iff.1 hr
      obtain ⟨v1, r1, rfl, e1, hr1⟩ := Reps.cons_iff.1 hr0
      rw [Reps.nil_iff] at hr1
      subst hr1
      rw [Rep] at e0 e1
      obtain ⟨us, cs, rfl, hus, hcs⟩ := e0
      rw [Reps.nil_iff] at hus
      subst hus
      obtain ⟨p, r1, rfl, hp, hr1⟩ := Reps.cons_iff.1 hcs
      rw [Reps.nil_iff] at hr1
      subst hr1
      obtain ⟨us, cs, rfl, hus, hcs⟩ := e1
      rw [Reps.nil_iff] at hus hcs
      subst hus hcs
      obtain ⟨Bm, bm, es, clk, ks, σ1, rfl, hBm, hm, hb, hks, hold, hnd, hc1, hs1, hrun3⟩ := keysIn_world hrun2 (fun ks => ok_someSpots _ fun l => ok_rowSpots _) hg I hp
      obtain ⟨l, rfl, hlen, hrun4⟩ := someSpots_inv hrun3
      have hxs : es.toList.map (·.key) = l.map K.encSpot := reps_spots hks
      have hseq := K.keysSpot_gives Fence.wide 2 trivial rfl (by omega) Bm bm es clk l hxs hold hnd w hBm hm hb
      have hmax : (100000 : Nat) ≤ maxLen := by decide
      have hC := K.sortedFuncSpot _ _ (enters_of Tryz.func195 (by kernel_rfl) rfl) _ l.length (by omega) (by omega) w hseq
      refine .inl ⟨callFunc_enter Tryz.func160 rfl rfl _ _, hC.mono fun ee w' he => ?_⟩
      obtain ⟨v, ss, ts, rfl, hS, hts, hpw, hown, hnil, hbel⟩ := he
      have hperm : ss.Perm l := hS
      have hsort : ts = sortS l := by
        refine List.Perm.eq_of_pairwise (le := fun a b => leS a b = true) (fun a b _ _ h h' => ?_) (hpw.imp fun {a b} h => ?_) (sortS_sorted l) ((hts.trans hperm).trans (sortS_perm l).symm)
        · rw [leS_eq] at h h'
          simp at h h'
          exact Prod.ext (by omega) (by omega)
        · rw [leS_eq]
          unfold Go.Proofs.ltOf K.cfSpot cmpN at h
          simp only [decide_eq_false_iff_not] at h
          rw [decide_eq_true_eq]
          repeat' split at h
          all_goals omega
      subst hsort
      have hsl : ss.length = (sortS l).length := (hperm.trans (sortS_perm l).symm).length_eq
      have hm : ((sortS l).length = 0 → rowSpots (sortS l) = pur nilS) ∧ (1 ≤ (sortS l).length → rowSpots (sortS l) = bind (newRow (flatS (sortS l))) fun nn => pur (.sl nn 0 0 2 (sortS l).length none)) := by
        refine ⟨fun h0 => ?_, fun h0 => ?_⟩
        · have : sortS l = [] := List.eq_nil_of_length_eq_zero (by omega)
          rw [this]; rfl
        · have hne : sortS l ≠ [] := fun h => by rw [h] at h0; simp at h0
          unfold rowSpots
          split
          · rename_i h; exact (hne h).elim
          · rename_i x r h
            rw [seqLD_eq, h]
            simp only [seqN_eq, lenR_eq]
      obtain ⟨G'', g1, g2, g3, g4⟩ := rowAny_answer hm hrun4 hc1 hs1 I hbel hB0 hL hown (by omega) (fun h0 => hnil.2 (List.eq_nil_of_length_eq_zero (by omega))) (G0 := G) (spots_reps _) (plain_flatS _)
      exact ⟨v, G'', rfl, g1, g2, g3, g4⟩
    · exact (fail_inv hrun).elim
end Go.E
end
section
namespace Go.E
open Go Go.RowKit Go.Proofs
theorem isAlt_ok {cs : List DV} (h : isAlt cs = true) : ∃ a1 a2 a3 a4 a5, cs = [.int .i64 a1, .int .i64 a2, .bool a3, .str a4, .int .i64 a5] := by
  unfold isAlt at h
  split at h
  · exact ⟨_, _, _, _, _, rfl⟩
  · cases h
theorem prim_sortedOne : PrimOk Tryz.prog 163 (pSortedOne 198 165) := by
  refine ⟨fun args => ?_, fun B0 L G w ds vs σ d σ' hrun hr hg I hB0 hL => ?_⟩
  · unfold pSortedOne
    split
    · refine Ok.cond (Ok.bind (ok_loadC _ _ _ _) fun cs => ?_) Ok.fail
      split
      · exact Ok.bind (ok_loadC _ _ _ _) fun cs => Ok.cond (Ok.bind (ok_newRow _) fun n => Ok.pur _) Ok.fail
      · exact Ok.fail
    · exact Ok.fail
  · unfold pSortedOne at hrun
    split at hrun
    · rename_i f b e h
      obtain ⟨hf, hrun2⟩ := cond_fail_inv hrun
      clear hrun
      rw [Bool.and_eq_true] at hf
      obtain rfl := Nat.eq_of_beq_eq_true hf.1
      obtain rfl := Nat.eq_of_beq_eq_true hf.2
      obtain ⟨v0, r0, rfl, e0, hr0⟩ := Reps.cons_iff.1 hr
      obtain ⟨v1, r1, rfl, e1, hr1⟩ := Reps.cons_iff.1 hr0
      rw [Reps.nil_iff] at hr1
      subst hr1
      rw [Rep] at e0 e1
      obtain ⟨us, cs, rfl, hus, hcs⟩ := e0
      rw [Reps.nil_iff] at hus
      subst hus
      obtain ⟨p, r1, rfl, hp, hr1⟩ := Reps.cons_iff.1 hcs
      rw [Reps.nil_iff] at hr1
      subst hr1
      obtain ⟨us, cs, rfl, hus, hcs⟩ := e1
      rw [Reps.nil_iff] at hus hcs
      subst hus hcs
      obtain ⟨cs, σ1, h1, h2⟩ := hrun2.split (ok_loadC _ _ _ _)
      obtain ⟨e', m, fz, row, hrow, hm, he, hlen, rfl, hc1, hs1⟩ := loadC_inv h1
      obtain ⟨B, d0, u, hB, rfl, hlt, hd0, hcell, hrep⟩ := box_world I hp hrow hm he hlen
      split at h2
      · rename_i n ep i lim hcs
        have hdd : d0 = .sl n ep i 5 1 lim := by
          have : ((row.drop 0).take 1)[0]? = some (.sl n ep i 5 1 lim) := by rw [hcs]; rfl
          rw [List.getElem?_take_of_lt (by omega), List.drop_zero, hd0] at this
          exact Option.some.inj this
        subst hdd
        obtain ⟨cs, σ2, h3, h4⟩ := h2.split (ok_loadC _ _ _ _)
        obtain ⟨e2, m2, fz2, row2, hrow2, hm2, he2, hlen2, rfl, hc2, hs2⟩ := loadC_inv h3
        obtain ⟨halt, h5⟩ := cond_fail_inv h4
        obtain ⟨a1, a2, a3, a4, a5, hall⟩ := isAlt_ok halt
        rw [hs1] at hrow2
        rw [Rep] at hrep
        obtain ⟨B2, ad, c, hB2, rfl, z1, z2, z3, z4, z5, z6, z7, z8⟩ := hrep
        have hi : Nat.mul i 5 = i * 5 := rfl
        rw [hi] at hlen2 hall h5
        obtain ⟨rm, rfz, rr⟩ := I.row n e2 m2 fz2 row2 hrow2
        obtain ⟨B3, hB3, y1, y2, y3, y4, y5, y6⟩ := rr ep hm2 he2
        rw [hB2] at hB3
        cases hB3
        obtain ⟨-, hlt2, -⟩ := I.known n ep B2 hB2
        have hat : ∀ q d, [DV.int .i64 a1, .int .i64 a2, .bool a3, .str a4, .int .i64 a5][q]? = some d → q < 5 → ∃ u, w.cell? ⟨B2.b, i * 5 - B2.sh + q, none⟩ = some u ∧ Rep G d u := fun q d hq h5 => by
          rw [← hall, List.getElem?_take_of_lt h5, List.getElem?_drop] at hq
          obtain ⟨u, g1, g2⟩ := y6 (i * 5 + q) d hq (by omega) (by omega)
          rw [show i * 5 + q - B2.sh = i * 5 - B2.sh + q by omega] at g1
          exact ⟨u, g1, g2⟩
        obtain ⟨u1, g1, k1⟩ := hat 0 _ rfl (by omega)
        obtain ⟨u2, g2, k2⟩ := hat 1 _ rfl (by omega)
        obtain ⟨u3, g3, k3⟩ := hat 2 _ rfl (by omega)
        obtain ⟨u4, g4, k4⟩ := hat 3 _ rfl (by omega)
        obtain ⟨u5, g5, k5⟩ := hat 4 _ rfl (by omega)
        rw [Rep] at k1 k2 k5
        rw [Rep] at k3
        rw [Rep] at k4
        obtain ⟨s, rfl, hs⟩ := k4
        subst k1 k2 k3 k5
        have hc0 : c ≠ 0 := by omega
        obtain rfl : ad = ⟨B2.b, i * 5 - B2.sh, none⟩ := by
          rcases z5 with h | h
          · exact (hc0 h).elim
          · exact h
        have hseq := K.valuesOne_gives Fence.wide 2 trivial rfl (by omega) B.b B2.b (i * 5 - B2.sh) c (a1, a2, a3, s, a5) w hlt hlt2 hcell (by simpa using g1) g2 g3 g4 g5
        have hC := K.sortedFuncAlt _ _ (enters_of Tryz.func198 (by kernel_rfl) rfl) _ 1 (by decide) (by decide) w hseq
        refine .inl ⟨callFunc_enter Tryz.func163 rfl rfl _ _, hC.mono fun ee w' he => ?_⟩
        obtain ⟨v, ss, ts, rfl, hS, hts, hpw, hown, hnil, hbel⟩ := he
        have hss : ss = [(a1, a2, a3, s, a5)] := hS
        subst hss
        obtain rfl : ts = [(a1, a2, a3, s, a5)] := List.perm_singleton.1 hts
        have hreps : Reps G [DV.int .i64 a1, .int .i64 a2, .bool a3, .str a4, .int .i64 a5] ([(a1, a2, a3, s, a5)].flatMap K.cellsAlt) := by
          show Reps G _ [Value.int .i64 a1, .int .i64 a2, .bool a3, .string s, .int .i64 a5]
          exact Reps.cons (by rw [Rep]) (Reps.cons (by rw [Rep]) (Reps.cons (by rw [Rep]) (Reps.cons (by rw [Rep]; exact ⟨s, rfl, hs⟩) (Reps.cons (by rw [Rep]) Reps.nil))))
        rw [hall] at h5
        obtain ⟨G'', q1, q2, q3, q4⟩ := rowAny_answer (n := 1) ⟨fun h => by omega, fun _ => rfl⟩ h5 (hc2.trans hc1) (hs2.trans hs1) I hbel hB0 hL hown (by omega) (fun h => by omega) (G0 := G) hreps (fun d hd => by simp at hd; rcases hd with rfl | rfl | rfl | rfl | rfl <;> rfl)
        exact ⟨v, G'', rfl, q1, q2, q3, q4⟩
      · exact (fail_inv h2).elim
    · exact (fail_inv hrun).elim
end Go.E
end
section
namespace Go.E
open Go Go.RowKit Go.Proofs
theorem tabW_prims : TrAll (PrimOk Tryz.prog) tabW.prim 0 1 := by
  unfold tabW
  dsimp only [TrAll]
  repeat' (first | exact trivial | exact prim_compare0 | exact prim_indexByte0 | exact prim_sortedInt | exact prim_sortedSpot | exact prim_sortedOne | exact prim_first0 | refine ⟨?_, ?_⟩)
theorem tabW_ok : TabOk Tryz.prog tabW := ⟨tabW_mixed, tysCheck_ok tabW_ty, eqsCheck_ok tabW_eq, tabW_fn.all, tabW_prims.all⟩
theorem awake_calls (w : World) : Calls Tryz.prog 4 #[] w fun e w' => e = .returned (.bool true) ∧ Below w.heap.size w w' := by
  obtain ⟨σ', ha⟩ := yes_run awake_run
  obtain ⟨-, q2⟩ := run_ok tabW_ok rfl ha (vs := []) Reps.nil w
  refine q2.mono fun e w' he => ?_
  obtain ⟨v, G', rfl, hv, I, hb⟩ := he
  rw [Rep] at hv
  subst hv
  exact ⟨rfl, hb⟩
end Go.E
end
