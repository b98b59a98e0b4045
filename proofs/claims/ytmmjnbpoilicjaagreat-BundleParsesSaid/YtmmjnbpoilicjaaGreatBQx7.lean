/- What functions of the program compute, and that their code computes it (turned out of what the printer of the kit wrote), part 6. -/
import Derived.Test.YtmmjnbpoilicjaaGreatBQa
import Derived.Test.YtmmjnbpoilicjaaGreatBQx0
set_option linter.unusedVariables false
set_option linter.unusedSimpArgs false
namespace Go.Proofs.YtmmjnbpoilicjaaGreat.Q
open Go.RowKit Go.Proofs.YtmmjnbpoilicjaaGreatW.PrintWords Go.Proofs.YtmmjnbpoilicjaaGreatW.PrintLast Go.Proofs.YtmmjnbpoilicjaaGreatW.PrintMore
attribute [local go_sem] max2_int min2_int max_two min_two max_three min_three max_four min_four   -- for this text's walks alone
attribute [local go_sem high] eqA110
def r9_SameInts.l0 : Nat → List Int → List Int → Int → Option (Bool)
 | 0, _, _, _ => none
 | k + 1, x0, x1, x5 => if x5 < (x0.length : Int) then (if 0 ≤ x5 then (if x5 < (x1.length : Int) then (if (rd x0 x5) = (rd x1 x5) then (r9_SameInts.l0 k x0 x1 (wrap64 (x5 + 1))) else (some false)) else (none)) else (none)) else (some true)
def r9_SameInts.f (k : Nat) (l0 : List Int) (l1 : List Int) : Option (Bool) := if (l0.length : Int) = (l1.length : Int) then (r9_SameInts.l0 k l0 l1 0) else (some false)
set_option maxHeartbeats 8000000 in
set_option maxRecDepth 100000 in
theorem r9_SameInts.calls (k : Nat) (A0 : Option Addr) (c0 : Nat) (l0 : List Int) (A1 : Option Addr) (c1 : Nat) (l1 : List Int) (r : Bool) (w : World) (hr0 : Kd.C (Kd.int .i64) w A0 l0.length l0) (hc0 : l0.length ≤ c0) (hr1 : Kd.C (Kd.int .i64) w A1 l1.length l1) (hc1 : l1.length ≤ c1) (h : r9_SameInts.f k l0 l1 = some r) :
  Calls Tryz.prog 16 #[.slice A0 l0.length c0, .slice A1 l1.length c1] w fun e w' => e = .returned (.bool r) ∧ Drawn0 w w' := by
 have HR0 := Ak hr0
 have HC0 := Ak hc0
 clear hr0 hc0
 have HR1 := Ak hr1
 have HC1 := Ak hc1
 clear hr1 hc1
 have H : (if (l0.length : Int) = (l1.length : Int) then (r9_SameInts.l0 k l0 l1 0) else (some false)) = some r := h
 clear h
 by_cases c3 : (l0.length : Int) = (l1.length : Int)
 ·rw [if_pos c3] at H
  have c3b0 : ((l0.length : Int) == (l1.length : Int)) = true := beq_iff_eq.mpr c3
  have c3b1 : ((l0.length : Int) != (l1.length : Int)) = false := bne_eq_false_iff_eq.mpr c3
  have c3b2 : (l0.length == l1.length) = true := by first | simpa using c3 | (simp at c3 ⊢; omega)
  clear c3
  have H' := Ak H
  clear H
  go_enter Tryz.func16, Tryz.ntmps16
  go_wp2
  repeat (go_quiet (fail); try go_wp2)
  go_loopg [5] k (fun kq v5 w' => ∃ (x5_1 : Int), v5 = .int .i64 x5_1 ∧ Aside0 (r9_SameInts.l0 kq l0 l1 x5_1 = some r) ∧ Aside0 (kq ≤ k) ∧ Drawn0 w w')
  case atStart => exact ⟨(0), Z11, H', ⟨Nat.le_refl _⟩, Z18⟩
  case round =>
   clear H'
   try clear c1
   try clear p2
   try clear c3
   try clear c3b0
   try clear c3b1
   try clear c3b2
   obtain ⟨x5_1, rfl, HA, HK1, ⟨m1, rfl⟩⟩ := hrel
   cases gk with
   | zero => exact absurd HA.out (by simp [r9_SameInts.l0])
   | succ k1 =>
    have H := HA.out
    clear HA
    simp only [r9_SameInts.l0] at H
    by_cases c4 : x5_1 < (l0.length : Int)
    ·rw [if_pos c4] at H
     have c4b0 : decide (x5_1 < (l0.length : Int)) = true := decide_eq_true c4
     clear c4
     by_cases c5 : 0 ≤ x5_1
     ·rw [if_pos c5] at H
      have c5b0 : decide (0 ≤ x5_1) = true := decide_eq_true c5
      clear c5
      by_cases c6 : x5_1 < (l1.length : Int)
      ·rw [if_pos c6] at H
       have c6b0 : decide (x5_1 < (l1.length : Int)) = true := decide_eq_true c6
       clear c6
       by_cases c7 : (rd l0 x5_1) = (rd l1 x5_1)
       ·rw [if_pos c7] at H
        have c7b0 : ((rd l0 x5_1) == (rd l1 x5_1)) = true := beq_iff_eq.mpr c7
        have c7b1 : ((rd l0 x5_1) != (rd l1 x5_1)) = false := bne_eq_false_iff_eq.mpr c7
        clear c7
        have H' := Ak H
        clear H
        have p331 : 0 ≤ (x5_1 : Int) := of_decide_eq_true Z20
        have q331 : x5_1 < (l0.length : Int) := of_decide_eq_true Z20
        obtain ⟨ad331, e331, hx331_0⟩ := Kd.at_int HR0.out x5_1 p331 q331
        cases e331
        replace p331 := eq_true p331
        replace q331 := eq_true q331
        have p332 : 0 ≤ (x5_1 : Int) := of_decide_eq_true Z20
        have q332 : x5_1 < (l1.length : Int) := of_decide_eq_true Z20
        obtain ⟨ad332, e332, hx332_0⟩ := Kd.at_int HR1.out x5_1 p332 q332
        cases e332
        replace p332 := eq_true p332
        replace q332 := eq_true q332
        go_wp2
        repeat (go_quiet (fail); try go_wp2)
        go_roundg k1
        case measure => have := HK1.out; omega
        case rel => exact ⟨(wrap64 (x5_1 + 1)), Z11, H', ⟨by have := HK1.out; omega⟩, Z18⟩
       ·rw [if_neg c7] at H
        have c7b0 : ((rd l0 x5_1) == (rd l1 x5_1)) = false := beq_eq_false_iff_ne.mpr c7
        have c7b1 : ((rd l0 x5_1) != (rd l1 x5_1)) = true := bne_iff_ne.mpr c7
        obtain rfl := Option.some.inj H
        have p331 : 0 ≤ (x5_1 : Int) := of_decide_eq_true Z20
        have q331 : x5_1 < (l0.length : Int) := of_decide_eq_true Z20
        obtain ⟨ad331, e331, hx331_0⟩ := Kd.at_int HR0.out x5_1 p331 q331
        cases e331
        replace p331 := eq_true p331
        replace q331 := eq_true q331
        have p332 : 0 ≤ (x5_1 : Int) := of_decide_eq_true Z20
        have q332 : x5_1 < (l1.length : Int) := of_decide_eq_true Z20
        obtain ⟨ad332, e332, hx332_0⟩ := Kd.at_int HR1.out x5_1 p332 q332
        cases e332
        replace p332 := eq_true p332
        replace q332 := eq_true q332
        go_wp2
        repeat (go_quiet (fail); try go_wp2)
        go_ret
        exact ⟨Z11, Z18⟩
      ·rw [if_neg c6] at H
       exact absurd H (by simp)
     ·rw [if_neg c5] at H
      exact absurd H (by simp)
    ·rw [if_neg c4] at H
     have c4b0 : decide (x5_1 < (l0.length : Int)) = false := decide_eq_false c4
     clear c4
     obtain rfl := Option.some.inj H
     go_wp2
     repeat (go_quiet (fail); try go_wp2)
     go_ret
     exact ⟨Z11, Z18⟩
 ·rw [if_neg c3] at H
  have c3b0 : ((l0.length : Int) == (l1.length : Int)) = false := beq_eq_false_iff_ne.mpr c3
  have c3b1 : ((l0.length : Int) != (l1.length : Int)) = true := bne_iff_ne.mpr c3
  have c3b2 : (l0.length == l1.length) = false := by first | simpa using c3 | (simp at c3 ⊢; omega)
  obtain rfl := Option.some.inj H
  go_enter Tryz.func16, Tryz.ntmps16
  go_wp2
  repeat (go_quiet (fail); try go_wp2)
  go_ret
  exact ⟨Z11, Z18⟩
mutual
def r9_SameCommit.j0 : Nat → Bool → Int → List Int → List Int → ByteArray → List (S110) → Int → List Int → List Int → ByteArray → List (S110) → Option (Bool)
 | 0, _, _, _, _, _, _, _, _, _, _, _ => none
 | k + 1, x42, x334000, x334001, x334002, x334003, x334004, x335000, x335001, x335002, x335003, x335004 => if x42 = true then (some false) else (r9_SameCommit.l0 k 0 x334000 x334001 x334002 x334003 x334004 x335000 x335001 x335002 x335003 x335004)
def r9_SameCommit.l0 : Nat → Int → Int → List Int → List Int → ByteArray → List (S110) → Int → List Int → List Int → ByteArray → List (S110) → Option (Bool)
 | 0, _, _, _, _, _, _, _, _, _, _, _ => none
 | k + 1, x5, x334000, x334001, x334002, x334003, x334004, x335000, x335001, x335002, x335003, x335004 => if x5 < (x334004.length : Int) then (if 0 ≤ x5 then (if x5 < (x335004.length : Int) then (if (!(((rd_T110 x334004 x5).f0) == ((rd_T110 x335004 x5).f0)) || (!(((rd_T110 x334004 x5).f1) == ((rd_T110 x335004 x5).f1)) || ((!(((rd_T110 x334004 x5).f2.f0) == ((rd_T110 x335004 x5).f2.f0)) || (!(((rd_T110 x334004 x5).f2.f1) == ((rd_T110 x335004 x5).f2.f1)) || (!((((rd_T110 x334004 x5).f2.f2).toList) == (((rd_T110 x335004 x5).f2.f2).toList)) || (!(((rd_T110 x334004 x5).f2.f3) == ((rd_T110 x335004 x5).f2.f3))))))))) = true then (some false) else (r9_SameCommit.l0 k (wrap64 (x5 + 1)) x334000 x334001 x334002 x334003 x334004 x335000 x335001 x335002 x335003 x335004)) else (none)) else (none)) else (some true)
end
def r9_SameCommit.f (k : Nat) (a0_0 : Int) (l0_1 : List Int) (l0_2 : List Int) (a0_3 : ByteArray) (l0_4 : List (S110)) (a1_0 : Int) (l1_1 : List Int) (l1_2 : List Int) (a1_3 : ByteArray) (l1_4 : List (S110)) : Option (Bool) := if a0_0 = a1_0 then (if a0_3.toList = a1_3.toList then ((r9_SameInts.f k l0_1 l1_1).bind fun t335 => (if t335 = true then ((r9_SameInts.f k l0_2 l1_2).bind fun t336 => (if t336 = true then (r9_SameCommit.j0 k ((l0_4.length : Int) != (l1_4.length : Int)) a0_0 l0_1 l0_2 a0_3 l0_4 a1_0 l1_1 l1_2 a1_3 l1_4) else (r9_SameCommit.j0 k true a0_0 l0_1 l0_2 a0_3 l0_4 a1_0 l1_1 l1_2 a1_3 l1_4))) else (r9_SameCommit.j0 k true a0_0 l0_1 l0_2 a0_3 l0_4 a1_0 l1_1 l1_2 a1_3 l1_4))) else (r9_SameCommit.j0 k true a0_0 l0_1 l0_2 a0_3 l0_4 a1_0 l1_1 l1_2 a1_3 l1_4)) else (r9_SameCommit.j0 k true a0_0 l0_1 l0_2 a0_3 l0_4 a1_0 l1_1 l1_2 a1_3 l1_4)
set_option maxHeartbeats 8000000 in
set_option maxRecDepth 100000 in
theorem r9_SameCommit.calls (k : Nat) (a0_0 : Int) (A0_1 : Option Addr) (c0_1 : Nat) (l0_1 : List Int) (A0_2 : Option Addr) (c0_2 : Nat) (l0_2 : List Int) (a0_3 : ByteArray) (A0_4 : Option Addr) (c0_4 : Nat) (l0_4 : List (S110)) (a1_0 : Int) (A1_1 : Option Addr) (c1_1 : Nat) (l1_1 : List Int) (A1_2 : Option Addr) (c1_2 : Nat) (l1_2 : List Int) (a1_3 : ByteArray) (A1_4 : Option Addr) (c1_4 : Nat) (l1_4 : List (S110)) (r : Bool) (w : World) (hr0_1 : Kd.C (Kd.int .i64) w A0_1 l0_1.length l0_1) (hc0_1 : l0_1.length ≤ c0_1) (hr0_2 : Kd.C (Kd.int .i64) w A0_2 l0_2.length l0_2) (hc0_2 : l0_2.length ≤ c0_2) (hr0_4 : Kd.C k110 w A0_4 l0_4.length l0_4) (hc0_4 : l0_4.length ≤ c0_4) (hr1_1 : Kd.C (Kd.int .i64) w A1_1 l1_1.length l1_1) (hc1_1 : l1_1.length ≤ c1_1) (hr1_2 : Kd.C (Kd.int .i64) w A1_2 l1_2.length l1_2) (hc1_2 : l1_2.length ≤ c1_2) (hr1_4 : Kd.C k110 w A1_4 l1_4.length l1_4) (hc1_4 : l1_4.length ≤ c1_4) (h : r9_SameCommit.f k a0_0 l0_1 l0_2 a0_3 l0_4 a1_0 l1_1 l1_2 a1_3 l1_4 = some r) :
  Calls Tryz.prog 39 #[.agg #[.int .i64 a0_0, .slice A0_1 l0_1.length c0_1, .slice A0_2 l0_2.length c0_2, .string a0_3, .slice A0_4 l0_4.length c0_4], .agg #[.int .i64 a1_0, .slice A1_1 l1_1.length c1_1, .slice A1_2 l1_2.length c1_2, .string a1_3, .slice A1_4 l1_4.length c1_4]] w fun e w' => e = .returned (.bool r) ∧ Below w.heap.size w w' := by
 have hu35 := Tryz.underlying35
 have hu110 := Tryz.underlying110
 have HR0_1 := Ak hr0_1
 have HC0_1 := Ak hc0_1
 clear hr0_1 hc0_1
 have HR0_2 := Ak hr0_2
 have HC0_2 := Ak hc0_2
 clear hr0_2 hc0_2
 have HR0_4 := Ak hr0_4
 have HC0_4 := Ak hc0_4
 clear hr0_4 hc0_4
 have HR1_1 := Ak hr1_1
 have HC1_1 := Ak hc1_1
 clear hr1_1 hc1_1
 have HR1_2 := Ak hr1_2
 have HC1_2 := Ak hc1_2
 clear hr1_2 hc1_2
 have HR1_4 := Ak hr1_4
 have HC1_4 := Ak hc1_4
 clear hr1_4 hc1_4
 have HB := Ak (Below.refl w.heap.size w)
 have H : (if a0_0 = a1_0 then (if a0_3.toList = a1_3.toList then ((r9_SameInts.f k l0_1 l1_1).bind fun t335 => (if t335 = true then ((r9_SameInts.f k l0_2 l1_2).bind fun t336 => (if t336 = true then (r9_SameCommit.j0 k ((l0_4.length : Int) != (l1_4.length : Int)) a0_0 l0_1 l0_2 a0_3 l0_4 a1_0 l1_1 l1_2 a1_3 l1_4) else (r9_SameCommit.j0 k true a0_0 l0_1 l0_2 a0_3 l0_4 a1_0 l1_1 l1_2 a1_3 l1_4))) else (r9_SameCommit.j0 k true a0_0 l0_1 l0_2 a0_3 l0_4 a1_0 l1_1 l1_2 a1_3 l1_4))) else (r9_SameCommit.j0 k true a0_0 l0_1 l0_2 a0_3 l0_4 a1_0 l1_1 l1_2 a1_3 l1_4)) else (r9_SameCommit.j0 k true a0_0 l0_1 l0_2 a0_3 l0_4 a1_0 l1_1 l1_2 a1_3 l1_4)) = some r := h
 clear h
 have HC3 := Ak H
 clear H
 go_enter Tryz.func39, Tryz.ntmps39
 go_upto_region 1 with (first | ((with_reducible refine gate_dst (N := 2) rfl ?_); (try (refine gate_guard (by rfl) ?_; dsimp only)); refine box_event ?hg (N := 2) ?hd (cs := #[.int .i64 a0_0, .slice A0_1 l0_1.length c0_1, .slice A0_2 l0_2.length c0_2, .string a0_3, .slice A0_4 l0_4.length c0_4]) (t := 35) ?hr ?_; (case hd => rfl); (case hg => rfl); (case hr => exact Z16); intro gb333 hg w4 hbox hb; have n0_ := Ak (below_step Z1 hb); have n1_ := Ak (hbox); have n2_ := Ak ((Z36 : w.heap.size ≤ gb333)); have n3_ := Ak ((Z36 : w.heap.size ≤ gb333)); clear HB; have HB := n0_; have BK333 := n1_; have GW333 := n2_; have GE333 := n3_; clear n0_ n1_ n2_ n3_; clear hb hbox hg) | ((with_reducible refine gate_dst (N := 3) rfl ?_); (try (refine gate_guard (by rfl) ?_; dsimp only)); refine box_event ?hg (N := 3) ?hd (cs := #[.int .i64 a1_0, .slice A1_1 l1_1.length c1_1, .slice A1_2 l1_2.length c1_2, .string a1_3, .slice A1_4 l1_4.length c1_4]) (t := 35) ?hr ?_; (case hd => rfl); (case hg => rfl); (case hr => exact Z16); intro gb334 hg w5 hbox hb; have n0_ := Ak (blk_below (g := gb333) (o := .cells #[.int .i64 a0_0, .slice A0_1 l0_1.length c0_1, .slice A0_2 l0_2.length c0_2, .string a0_3, .slice A0_4 l0_4.length c0_4] 35 (0, 0)) Z115 hb); have n1_ := Ak (below_step Z32 hb); have n2_ := Ak (hbox); have n3_ := Ak ((by rw [hg]; exact (below_size Z32) : w.heap.size ≤ gb334)); have n4_ := Ak ((by rw [hg]; exact (below_size Z32) : w.heap.size ≤ gb334)); have n5_ := Ak ((Z69 : gb333 ≠ gb334)); have n6_ := Ak ((Z70 : gb334 ≠ gb333)); clear BK333; clear HB; have BK333 := n0_; have HB := n1_; have BK334 := n2_; have GW334 := n3_; have GE334 := n4_; have NB333_334 := n5_; have NB334_333 := n6_; clear n0_ n1_ n2_ n3_ n4_ n5_ n6_; clear hb hbox hg))
 repeat (go_quiet (first | ((with_reducible refine gate_dst (N := 2) rfl ?_); (try (refine gate_guard (by rfl) ?_; dsimp only)); refine box_event ?hg (N := 2) ?hd (cs := #[.int .i64 a0_0, .slice A0_1 l0_1.length c0_1, .slice A0_2 l0_2.length c0_2, .string a0_3, .slice A0_4 l0_4.length c0_4]) (t := 35) ?hr ?_; (case hd => rfl); (case hg => rfl); (case hr => exact Z16); intro gb333 hg w4 hbox hb; have n0_ := Ak (below_step Z1 hb); have n1_ := Ak (hbox); have n2_ := Ak ((Z36 : w.heap.size ≤ gb333)); have n3_ := Ak ((Z36 : w.heap.size ≤ gb333)); clear HB; have HB := n0_; have BK333 := n1_; have GW333 := n2_; have GE333 := n3_; clear n0_ n1_ n2_ n3_; clear hb hbox hg) | ((with_reducible refine gate_dst (N := 3) rfl ?_); (try (refine gate_guard (by rfl) ?_; dsimp only)); refine box_event ?hg (N := 3) ?hd (cs := #[.int .i64 a1_0, .slice A1_1 l1_1.length c1_1, .slice A1_2 l1_2.length c1_2, .string a1_3, .slice A1_4 l1_4.length c1_4]) (t := 35) ?hr ?_; (case hd => rfl); (case hg => rfl); (case hr => exact Z16); intro gb334 hg w5 hbox hb; have n0_ := Ak (blk_below (g := gb333) (o := .cells #[.int .i64 a0_0, .slice A0_1 l0_1.length c0_1, .slice A0_2 l0_2.length c0_2, .string a0_3, .slice A0_4 l0_4.length c0_4] 35 (0, 0)) Z115 hb); have n1_ := Ak (below_step Z32 hb); have n2_ := Ak (hbox); have n3_ := Ak ((by rw [hg]; exact (below_size Z32) : w.heap.size ≤ gb334)); have n4_ := Ak ((by rw [hg]; exact (below_size Z32) : w.heap.size ≤ gb334)); have n5_ := Ak ((Z69 : gb333 ≠ gb334)); have n6_ := Ak ((Z70 : gb334 ≠ gb333)); clear BK333; clear HB; have BK333 := n0_; have HB := n1_; have BK334 := n2_; have GW334 := n3_; have GE334 := n4_; have NB333_334 := n5_; have NB334_333 := n6_; clear n0_ n1_ n2_ n3_ n4_ n5_ n6_; clear hb hbox hg)); go_upto_region 1 with (first | ((with_reducible refine gate_dst (N := 2) rfl ?_); (try (refine gate_guard (by rfl) ?_; dsimp only)); refine box_event ?hg (N := 2) ?hd (cs := #[.int .i64 a0_0, .slice A0_1 l0_1.length c0_1, .slice A0_2 l0_2.length c0_2, .string a0_3, .slice A0_4 l0_4.length c0_4]) (t := 35) ?hr ?_; (case hd => rfl); (case hg => rfl); (case hr => exact Z16); intro gb333 hg w4 hbox hb; have n0_ := Ak (below_step Z1 hb); have n1_ := Ak (hbox); have n2_ := Ak ((Z36 : w.heap.size ≤ gb333)); have n3_ := Ak ((Z36 : w.heap.size ≤ gb333)); clear HB; have HB := n0_; have BK333 := n1_; have GW333 := n2_; have GE333 := n3_; clear n0_ n1_ n2_ n3_; clear hb hbox hg) | ((with_reducible refine gate_dst (N := 3) rfl ?_); (try (refine gate_guard (by rfl) ?_; dsimp only)); refine box_event ?hg (N := 3) ?hd (cs := #[.int .i64 a1_0, .slice A1_1 l1_1.length c1_1, .slice A1_2 l1_2.length c1_2, .string a1_3, .slice A1_4 l1_4.length c1_4]) (t := 35) ?hr ?_; (case hd => rfl); (case hg => rfl); (case hr => exact Z16); intro gb334 hg w5 hbox hb; have n0_ := Ak (blk_below (g := gb333) (o := .cells #[.int .i64 a0_0, .slice A0_1 l0_1.length c0_1, .slice A0_2 l0_2.length c0_2, .string a0_3, .slice A0_4 l0_4.length c0_4] 35 (0, 0)) Z115 hb); have n1_ := Ak (below_step Z32 hb); have n2_ := Ak (hbox); have n3_ := Ak ((by rw [hg]; exact (below_size Z32) : w.heap.size ≤ gb334)); have n4_ := Ak ((by rw [hg]; exact (below_size Z32) : w.heap.size ≤ gb334)); have n5_ := Ak ((Z69 : gb333 ≠ gb334)); have n6_ := Ak ((Z70 : gb334 ≠ gb333)); clear BK333; clear HB; have BK333 := n0_; have HB := n1_; have BK334 := n2_; have GW334 := n3_; have GE334 := n4_; have NB333_334 := n5_; have NB334_333 := n6_; clear n0_ n1_ n2_ n3_ n4_ n5_ n6_; clear hb hbox hg)))
 (try simp only [Act.put, List.setIfInBounds_toArray, List.set_cons_zero, List.set_cons_succ])
 go_cut [42] (fun v42 wc => ∃ (kq : Nat) (x42_2 : Bool), v42 = .bool x42_2 ∧ Aside0 (r9_SameCommit.j0 kq x42_2 a0_0 l0_1 l0_2 a0_3 l0_4 a1_0 l1_1 l1_2 a1_3 l1_4 = some r) ∧ Aside0 (kq ≤ k) ∧ Aside0 (wc.heap[gb333]? = some (.cells #[.int .i64 a0_0, (.slice A0_1 l0_1.length c0_1), (.slice A0_2 l0_2.length c0_2), .string a0_3, (.slice A0_4 l0_4.length c0_4)] 35 (0, 0))) ∧ Aside0 (wc.heap[gb334]? = some (.cells #[.int .i64 a1_0, (.slice A1_1 l1_1.length c1_1), (.slice A1_2 l1_2.length c1_2), .string a1_3, (.slice A1_4 l1_4.length c1_4)] 35 (0, 0))) ∧ Aside0 (Below w.heap.size w wc))
 case first =>
  have H := HC3.out
  clear HC3
  by_cases c6 : a0_0 = a1_0
  ·rw [if_pos c6] at H
   have c6b0 : (a0_0 == a1_0) = true := beq_iff_eq.mpr c6
   have c6b1 : (a0_0 != a1_0) = false := bne_eq_false_iff_eq.mpr c6
   clear c6
   (first | rw [c6b0] | (simp only [i64_w, i32_w]; rw [c6b0]) | skip)
   by_cases c7 : a0_3.toList = a1_3.toList
   ·rw [if_pos c7] at H
    have c7b0 : (a0_3.toList == a1_3.toList) = true := beq_iff_eq.mpr c7
    have c7b1 : (a0_3.toList != a1_3.toList) = false := bne_eq_false_iff_eq.mpr c7
    clear c7
    replace H := Option.bind_eq_some_iff.mp H
    obtain ⟨t335, A80, H⟩ := H
    replace H : (if t335 = true then ((r9_SameInts.f k l0_2 l1_2).bind fun t336 => (if t336 = true then (r9_SameCommit.j0 k ((l0_4.length : Int) != (l1_4.length : Int)) a0_0 l0_1 l0_2 a0_3 l0_4 a1_0 l1_1 l1_2 a1_3 l1_4) else (r9_SameCommit.j0 k true a0_0 l0_1 l0_2 a0_3 l0_4 a1_0 l1_1 l1_2 a1_3 l1_4))) else (r9_SameCommit.j0 k true a0_0 l0_1 l0_2 a0_3 l0_4 a1_0 l1_1 l1_2 a1_3 l1_4)) = some r := H
    have A8 := Ak A80
    clear A80
    by_cases c9 : t335 = true
    ·subst c9
     have H1 : ((r9_SameInts.f k l0_2 l1_2).bind fun t336 => (if t336 = true then (r9_SameCommit.j0 k ((l0_4.length : Int) != (l1_4.length : Int)) a0_0 l0_1 l0_2 a0_3 l0_4 a1_0 l1_1 l1_2 a1_3 l1_4) else (r9_SameCommit.j0 k true a0_0 l0_1 l0_2 a0_3 l0_4 a1_0 l1_1 l1_2 a1_3 l1_4))) = some r := by rw [if_pos rfl] at H; exact H
     clear H
     have H := H1
     clear H1
     replace H := Option.bind_eq_some_iff.mp H
     obtain ⟨t336, A100, H⟩ := H
     replace H : (if t336 = true then (r9_SameCommit.j0 k ((l0_4.length : Int) != (l1_4.length : Int)) a0_0 l0_1 l0_2 a0_3 l0_4 a1_0 l1_1 l1_2 a1_3 l1_4) else (r9_SameCommit.j0 k true a0_0 l0_1 l0_2 a0_3 l0_4 a1_0 l1_1 l1_2 a1_3 l1_4)) = some r := H
     have A10 := Ak A100
     clear A100
     by_cases c11 : t336 = true
     ·subst c11
      have H1 : (r9_SameCommit.j0 k ((l0_4.length : Int) != (l1_4.length : Int)) a0_0 l0_1 l0_2 a0_3 l0_4 a1_0 l1_1 l1_2 a1_3 l1_4) = some r := by rw [if_pos rfl] at H; exact H
      clear H
      have H := H1
      clear H1
      have H' := Ak H
      clear H
      have hnb12 := NB333_334.out
      have hnc12 := NB334_333.out
      have hcz13_0 : w5.cell? ⟨gb333, 0, none⟩ = some (.int .i64 a0_0) := (blk_cell BK333.out 0).trans rfl
      have hcz13_1 : w5.cell? ⟨gb333, 1, none⟩ = some (.slice A0_1 l0_1.length c0_1) := (blk_cell BK333.out 1).trans rfl
      have hcz13_2 : w5.cell? ⟨gb333, 2, none⟩ = some (.slice A0_2 l0_2.length c0_2) := (blk_cell BK333.out 2).trans rfl
      have hcz13_3 : w5.cell? ⟨gb333, 3, none⟩ = some (.string a0_3) := (blk_cell BK333.out 3).trans rfl
      have hcz13_4 : w5.cell? ⟨gb333, 4, none⟩ = some (.slice A0_4 l0_4.length c0_4) := (blk_cell BK333.out 4).trans rfl
      have hfz13_0 := bfz BK333.out 0
      have hfz13_1 := bfz BK333.out 1
      have hfz13_2 := bfz BK333.out 2
      have hfz13_3 := bfz BK333.out 3
      have hfz13_4 := bfz BK333.out 4
      have hcz14_0 : w5.cell? ⟨gb334, 0, none⟩ = some (.int .i64 a1_0) := (blk_cell BK334.out 0).trans rfl
      have hcz14_1 : w5.cell? ⟨gb334, 1, none⟩ = some (.slice A1_1 l1_1.length c1_1) := (blk_cell BK334.out 1).trans rfl
      have hcz14_2 : w5.cell? ⟨gb334, 2, none⟩ = some (.slice A1_2 l1_2.length c1_2) := (blk_cell BK334.out 2).trans rfl
      have hcz14_3 : w5.cell? ⟨gb334, 3, none⟩ = some (.string a1_3) := (blk_cell BK334.out 3).trans rfl
      have hcz14_4 : w5.cell? ⟨gb334, 4, none⟩ = some (.slice A1_4 l1_4.length c1_4) := (blk_cell BK334.out 4).trans rfl
      have hfz14_0 := bfz BK334.out 0
      have hfz14_1 := bfz BK334.out 1
      have hfz14_2 := bfz BK334.out 2
      have hfz14_3 := bfz BK334.out 3
      have hfz14_4 := bfz BK334.out 4
      go_wp2_with (first | (go_at_call 16; (with_reducible refine (r9_SameInts.calls k _ _ l0_1 _ _ l1_1 true _ ?side1 ?side2 ?side3 ?side4 A8.out).mono ?_); (case side1 => exact Z30); (case side2 => exact HC0_1.out); (case side3 => exact Z29); (case side4 => exact HC1_1.out); rintro e w' ⟨rfl, ⟨nd, rfl⟩⟩; (try first | exact ⟨rfl, _, World.drewN_drewN _ _ _⟩ | exact ⟨rfl, _, Eq.trans (World.drewN_drewN _ _ _) (congrArg (World.drewN _) (Nat.add_assoc _ _ _))⟩)) | (go_at_call 16; (with_reducible refine (r9_SameInts.calls k _ _ l0_2 _ _ l1_2 true _ ?side1 ?side2 ?side3 ?side4 A10.out).mono ?_); (case side1 => exact Z48); (case side2 => exact HC0_2.out); (case side3 => exact Z47); (case side4 => exact HC1_2.out); rintro e w' ⟨rfl, ⟨nd, rfl⟩⟩; (try first | exact ⟨rfl, _, World.drewN_drewN _ _ _⟩ | exact ⟨rfl, _, Eq.trans (World.drewN_drewN _ _ _) (congrArg (World.drewN _) (Nat.add_assoc _ _ _))⟩)))
      repeat (go_quiet (first | (go_at_call 16; (with_reducible refine (r9_SameInts.calls k _ _ l0_1 _ _ l1_1 true _ ?side1 ?side2 ?side3 ?side4 A8.out).mono ?_); (case side1 => exact Z30); (case side2 => exact HC0_1.out); (case side3 => exact Z29); (case side4 => exact HC1_1.out); rintro e w' ⟨rfl, ⟨nd, rfl⟩⟩; (try first | exact ⟨rfl, _, World.drewN_drewN _ _ _⟩ | exact ⟨rfl, _, Eq.trans (World.drewN_drewN _ _ _) (congrArg (World.drewN _) (Nat.add_assoc _ _ _))⟩)) | (go_at_call 16; (with_reducible refine (r9_SameInts.calls k _ _ l0_2 _ _ l1_2 true _ ?side1 ?side2 ?side3 ?side4 A10.out).mono ?_); (case side1 => exact Z48); (case side2 => exact HC0_2.out); (case side3 => exact Z47); (case side4 => exact HC1_2.out); rintro e w' ⟨rfl, ⟨nd, rfl⟩⟩; (try first | exact ⟨rfl, _, World.drewN_drewN _ _ _⟩ | exact ⟨rfl, _, Eq.trans (World.drewN_drewN _ _ _) (congrArg (World.drewN _) (Nat.add_assoc _ _ _))⟩))); try go_wp2_with (first | (go_at_call 16; (with_reducible refine (r9_SameInts.calls k _ _ l0_1 _ _ l1_1 true _ ?side1 ?side2 ?side3 ?side4 A8.out).mono ?_); (case side1 => exact Z30); (case side2 => exact HC0_1.out); (case side3 => exact Z29); (case side4 => exact HC1_1.out); rintro e w' ⟨rfl, ⟨nd, rfl⟩⟩; (try first | exact ⟨rfl, _, World.drewN_drewN _ _ _⟩ | exact ⟨rfl, _, Eq.trans (World.drewN_drewN _ _ _) (congrArg (World.drewN _) (Nat.add_assoc _ _ _))⟩)) | (go_at_call 16; (with_reducible refine (r9_SameInts.calls k _ _ l0_2 _ _ l1_2 true _ ?side1 ?side2 ?side3 ?side4 A10.out).mono ?_); (case side1 => exact Z48); (case side2 => exact HC0_2.out); (case side3 => exact Z47); (case side4 => exact HC1_2.out); rintro e w' ⟨rfl, ⟨nd, rfl⟩⟩; (try first | exact ⟨rfl, _, World.drewN_drewN _ _ _⟩ | exact ⟨rfl, _, Eq.trans (World.drewN_drewN _ _ _) (congrArg (World.drewN _) (Nat.add_assoc _ _ _))⟩))))
      go_meet
      case rel => exact ⟨_, (((l0_4.length : Int) != (l1_4.length : Int))), Z11, H', ⟨Z63⟩, ⟨Z115⟩, ⟨by refine bz ?_; exact BK334.out⟩, ⟨Z9⟩⟩
     ·replace c11 := Bool.eq_false_iff.mpr c11
      subst c11
      have H1 : (r9_SameCommit.j0 k true a0_0 l0_1 l0_2 a0_3 l0_4 a1_0 l1_1 l1_2 a1_3 l1_4) = some r := by rw [if_neg (show ¬ (false = true) by decide)] at H; exact H
      clear H
      have H := H1
      clear H1
      have H' := Ak H
      clear H
      have hnb15 := NB333_334.out
      have hnc15 := NB334_333.out
      have hcz16_0 : w5.cell? ⟨gb333, 0, none⟩ = some (.int .i64 a0_0) := (blk_cell BK333.out 0).trans rfl
      have hcz16_1 : w5.cell? ⟨gb333, 1, none⟩ = some (.slice A0_1 l0_1.length c0_1) := (blk_cell BK333.out 1).trans rfl
      have hcz16_2 : w5.cell? ⟨gb333, 2, none⟩ = some (.slice A0_2 l0_2.length c0_2) := (blk_cell BK333.out 2).trans rfl
      have hcz16_3 : w5.cell? ⟨gb333, 3, none⟩ = some (.string a0_3) := (blk_cell BK333.out 3).trans rfl
      have hcz16_4 : w5.cell? ⟨gb333, 4, none⟩ = some (.slice A0_4 l0_4.length c0_4) := (blk_cell BK333.out 4).trans rfl
      have hfz16_0 := bfz BK333.out 0
      have hfz16_1 := bfz BK333.out 1
      have hfz16_2 := bfz BK333.out 2
      have hfz16_3 := bfz BK333.out 3
      have hfz16_4 := bfz BK333.out 4
      have hcz17_0 : w5.cell? ⟨gb334, 0, none⟩ = some (.int .i64 a1_0) := (blk_cell BK334.out 0).trans rfl
      have hcz17_1 : w5.cell? ⟨gb334, 1, none⟩ = some (.slice A1_1 l1_1.length c1_1) := (blk_cell BK334.out 1).trans rfl
      have hcz17_2 : w5.cell? ⟨gb334, 2, none⟩ = some (.slice A1_2 l1_2.length c1_2) := (blk_cell BK334.out 2).trans rfl
      have hcz17_3 : w5.cell? ⟨gb334, 3, none⟩ = some (.string a1_3) := (blk_cell BK334.out 3).trans rfl
      have hcz17_4 : w5.cell? ⟨gb334, 4, none⟩ = some (.slice A1_4 l1_4.length c1_4) := (blk_cell BK334.out 4).trans rfl
      have hfz17_0 := bfz BK334.out 0
      have hfz17_1 := bfz BK334.out 1
      have hfz17_2 := bfz BK334.out 2
      have hfz17_3 := bfz BK334.out 3
      have hfz17_4 := bfz BK334.out 4
      go_wp2_with (first | (go_at_call 16; (with_reducible refine (r9_SameInts.calls k _ _ l0_1 _ _ l1_1 true _ ?side1 ?side2 ?side3 ?side4 A8.out).mono ?_); (case side1 => exact Z30); (case side2 => exact HC0_1.out); (case side3 => exact Z29); (case side4 => exact HC1_1.out); rintro e w' ⟨rfl, ⟨nd, rfl⟩⟩; (try first | exact ⟨rfl, _, World.drewN_drewN _ _ _⟩ | exact ⟨rfl, _, Eq.trans (World.drewN_drewN _ _ _) (congrArg (World.drewN _) (Nat.add_assoc _ _ _))⟩)) | (go_at_call 16; (with_reducible refine (r9_SameInts.calls k _ _ l0_2 _ _ l1_2 false _ ?side1 ?side2 ?side3 ?side4 A10.out).mono ?_); (case side1 => exact Z48); (case side2 => exact HC0_2.out); (case side3 => exact Z47); (case side4 => exact HC1_2.out); rintro e w' ⟨rfl, ⟨nd, rfl⟩⟩; (try first | exact ⟨rfl, _, World.drewN_drewN _ _ _⟩ | exact ⟨rfl, _, Eq.trans (World.drewN_drewN _ _ _) (congrArg (World.drewN _) (Nat.add_assoc _ _ _))⟩)))
      repeat (go_quiet (first | (go_at_call 16; (with_reducible refine (r9_SameInts.calls k _ _ l0_1 _ _ l1_1 true _ ?side1 ?side2 ?side3 ?side4 A8.out).mono ?_); (case side1 => exact Z30); (case side2 => exact HC0_1.out); (case side3 => exact Z29); (case side4 => exact HC1_1.out); rintro e w' ⟨rfl, ⟨nd, rfl⟩⟩; (try first | exact ⟨rfl, _, World.drewN_drewN _ _ _⟩ | exact ⟨rfl, _, Eq.trans (World.drewN_drewN _ _ _) (congrArg (World.drewN _) (Nat.add_assoc _ _ _))⟩)) | (go_at_call 16; (with_reducible refine (r9_SameInts.calls k _ _ l0_2 _ _ l1_2 false _ ?side1 ?side2 ?side3 ?side4 A10.out).mono ?_); (case side1 => exact Z48); (case side2 => exact HC0_2.out); (case side3 => exact Z47); (case side4 => exact HC1_2.out); rintro e w' ⟨rfl, ⟨nd, rfl⟩⟩; (try first | exact ⟨rfl, _, World.drewN_drewN _ _ _⟩ | exact ⟨rfl, _, Eq.trans (World.drewN_drewN _ _ _) (congrArg (World.drewN _) (Nat.add_assoc _ _ _))⟩))); try go_wp2_with (first | (go_at_call 16; (with_reducible refine (r9_SameInts.calls k _ _ l0_1 _ _ l1_1 true _ ?side1 ?side2 ?side3 ?side4 A8.out).mono ?_); (case side1 => exact Z30); (case side2 => exact HC0_1.out); (case side3 => exact Z29); (case side4 => exact HC1_1.out); rintro e w' ⟨rfl, ⟨nd, rfl⟩⟩; (try first | exact ⟨rfl, _, World.drewN_drewN _ _ _⟩ | exact ⟨rfl, _, Eq.trans (World.drewN_drewN _ _ _) (congrArg (World.drewN _) (Nat.add_assoc _ _ _))⟩)) | (go_at_call 16; (with_reducible refine (r9_SameInts.calls k _ _ l0_2 _ _ l1_2 false _ ?side1 ?side2 ?side3 ?side4 A10.out).mono ?_); (case side1 => exact Z48); (case side2 => exact HC0_2.out); (case side3 => exact Z47); (case side4 => exact HC1_2.out); rintro e w' ⟨rfl, ⟨nd, rfl⟩⟩; (try first | exact ⟨rfl, _, World.drewN_drewN _ _ _⟩ | exact ⟨rfl, _, Eq.trans (World.drewN_drewN _ _ _) (congrArg (World.drewN _) (Nat.add_assoc _ _ _))⟩))))
      go_meet
      case rel => exact ⟨_, (true), Z11, H', ⟨Z63⟩, ⟨Z115⟩, ⟨by refine bz ?_; exact BK334.out⟩, ⟨Z9⟩⟩
    ·replace c9 := Bool.eq_false_iff.mpr c9
     subst c9
     have H1 : (r9_SameCommit.j0 k true a0_0 l0_1 l0_2 a0_3 l0_4 a1_0 l1_1 l1_2 a1_3 l1_4) = some r := by rw [if_neg (show ¬ (false = true) by decide)] at H; exact H
     clear H
     have H := H1
     clear H1
     have H' := Ak H
     clear H
     have hnb18 := NB333_334.out
     have hnc18 := NB334_333.out
     have hcz19_0 : w5.cell? ⟨gb333, 0, none⟩ = some (.int .i64 a0_0) := (blk_cell BK333.out 0).trans rfl
     have hcz19_1 : w5.cell? ⟨gb333, 1, none⟩ = some (.slice A0_1 l0_1.length c0_1) := (blk_cell BK333.out 1).trans rfl
     have hcz19_2 : w5.cell? ⟨gb333, 2, none⟩ = some (.slice A0_2 l0_2.length c0_2) := (blk_cell BK333.out 2).trans rfl
     have hcz19_3 : w5.cell? ⟨gb333, 3, none⟩ = some (.string a0_3) := (blk_cell BK333.out 3).trans rfl
     have hcz19_4 : w5.cell? ⟨gb333, 4, none⟩ = some (.slice A0_4 l0_4.length c0_4) := (blk_cell BK333.out 4).trans rfl
     have hfz19_0 := bfz BK333.out 0
     have hfz19_1 := bfz BK333.out 1
     have hfz19_2 := bfz BK333.out 2
     have hfz19_3 := bfz BK333.out 3
     have hfz19_4 := bfz BK333.out 4
     have hcz20_0 : w5.cell? ⟨gb334, 0, none⟩ = some (.int .i64 a1_0) := (blk_cell BK334.out 0).trans rfl
     have hcz20_1 : w5.cell? ⟨gb334, 1, none⟩ = some (.slice A1_1 l1_1.length c1_1) := (blk_cell BK334.out 1).trans rfl
     have hcz20_2 : w5.cell? ⟨gb334, 2, none⟩ = some (.slice A1_2 l1_2.length c1_2) := (blk_cell BK334.out 2).trans rfl
     have hcz20_3 : w5.cell? ⟨gb334, 3, none⟩ = some (.string a1_3) := (blk_cell BK334.out 3).trans rfl
     have hcz20_4 : w5.cell? ⟨gb334, 4, none⟩ = some (.slice A1_4 l1_4.length c1_4) := (blk_cell BK334.out 4).trans rfl
     have hfz20_0 := bfz BK334.out 0
     have hfz20_1 := bfz BK334.out 1
     have hfz20_2 := bfz BK334.out 2
     have hfz20_3 := bfz BK334.out 3
     have hfz20_4 := bfz BK334.out 4
     go_wp2_with (first | (go_at_call 16; (with_reducible refine (r9_SameInts.calls k _ _ l0_1 _ _ l1_1 false _ ?side1 ?side2 ?side3 ?side4 A8.out).mono ?_); (case side1 => exact Z30); (case side2 => exact HC0_1.out); (case side3 => exact Z29); (case side4 => exact HC1_1.out); rintro e w' ⟨rfl, ⟨nd, rfl⟩⟩; (try first | exact ⟨rfl, _, World.drewN_drewN _ _ _⟩ | exact ⟨rfl, _, Eq.trans (World.drewN_drewN _ _ _) (congrArg (World.drewN _) (Nat.add_assoc _ _ _))⟩)))
     repeat (go_quiet (first | (go_at_call 16; (with_reducible refine (r9_SameInts.calls k _ _ l0_1 _ _ l1_1 false _ ?side1 ?side2 ?side3 ?side4 A8.out).mono ?_); (case side1 => exact Z30); (case side2 => exact HC0_1.out); (case side3 => exact Z29); (case side4 => exact HC1_1.out); rintro e w' ⟨rfl, ⟨nd, rfl⟩⟩; (try first | exact ⟨rfl, _, World.drewN_drewN _ _ _⟩ | exact ⟨rfl, _, Eq.trans (World.drewN_drewN _ _ _) (congrArg (World.drewN _) (Nat.add_assoc _ _ _))⟩))); try go_wp2_with (first | (go_at_call 16; (with_reducible refine (r9_SameInts.calls k _ _ l0_1 _ _ l1_1 false _ ?side1 ?side2 ?side3 ?side4 A8.out).mono ?_); (case side1 => exact Z30); (case side2 => exact HC0_1.out); (case side3 => exact Z29); (case side4 => exact HC1_1.out); rintro e w' ⟨rfl, ⟨nd, rfl⟩⟩; (try first | exact ⟨rfl, _, World.drewN_drewN _ _ _⟩ | exact ⟨rfl, _, Eq.trans (World.drewN_drewN _ _ _) (congrArg (World.drewN _) (Nat.add_assoc _ _ _))⟩))))
     go_meet
     case rel => exact ⟨_, (true), Z11, H', ⟨Z63⟩, ⟨Z115⟩, ⟨by refine bz ?_; exact BK334.out⟩, ⟨Z9⟩⟩
   ·rw [if_neg c7] at H
    have c7b0 : (a0_3.toList == a1_3.toList) = false := beq_eq_false_iff_ne.mpr c7
    have c7b1 : (a0_3.toList != a1_3.toList) = true := bne_iff_ne.mpr c7
    have H' := Ak H
    clear H
    have hnb21 := NB333_334.out
    have hnc21 := NB334_333.out
    have hcz22_0 : w5.cell? ⟨gb333, 0, none⟩ = some (.int .i64 a0_0) := (blk_cell BK333.out 0).trans rfl
    have hcz22_1 : w5.cell? ⟨gb333, 1, none⟩ = some (.slice A0_1 l0_1.length c0_1) := (blk_cell BK333.out 1).trans rfl
    have hcz22_2 : w5.cell? ⟨gb333, 2, none⟩ = some (.slice A0_2 l0_2.length c0_2) := (blk_cell BK333.out 2).trans rfl
    have hcz22_3 : w5.cell? ⟨gb333, 3, none⟩ = some (.string a0_3) := (blk_cell BK333.out 3).trans rfl
    have hcz22_4 : w5.cell? ⟨gb333, 4, none⟩ = some (.slice A0_4 l0_4.length c0_4) := (blk_cell BK333.out 4).trans rfl
    have hfz22_0 := bfz BK333.out 0
    have hfz22_1 := bfz BK333.out 1
    have hfz22_2 := bfz BK333.out 2
    have hfz22_3 := bfz BK333.out 3
    have hfz22_4 := bfz BK333.out 4
    have hcz23_0 : w5.cell? ⟨gb334, 0, none⟩ = some (.int .i64 a1_0) := (blk_cell BK334.out 0).trans rfl
    have hcz23_1 : w5.cell? ⟨gb334, 1, none⟩ = some (.slice A1_1 l1_1.length c1_1) := (blk_cell BK334.out 1).trans rfl
    have hcz23_2 : w5.cell? ⟨gb334, 2, none⟩ = some (.slice A1_2 l1_2.length c1_2) := (blk_cell BK334.out 2).trans rfl
    have hcz23_3 : w5.cell? ⟨gb334, 3, none⟩ = some (.string a1_3) := (blk_cell BK334.out 3).trans rfl
    have hcz23_4 : w5.cell? ⟨gb334, 4, none⟩ = some (.slice A1_4 l1_4.length c1_4) := (blk_cell BK334.out 4).trans rfl
    have hfz23_0 := bfz BK334.out 0
    have hfz23_1 := bfz BK334.out 1
    have hfz23_2 := bfz BK334.out 2
    have hfz23_3 := bfz BK334.out 3
    have hfz23_4 := bfz BK334.out 4
    go_wp2
    repeat (go_quiet (fail); try go_wp2)
    go_meet
    case rel => exact ⟨_, (true), Z11, H', ⟨Z63⟩, ⟨Z115⟩, ⟨by refine bz ?_; exact BK334.out⟩, ⟨Z9⟩⟩
  ·rw [if_neg c6] at H
   have c6b0 : (a0_0 == a1_0) = false := beq_eq_false_iff_ne.mpr c6
   have c6b1 : (a0_0 != a1_0) = true := bne_iff_ne.mpr c6
   (first | rw [c6b0] | (simp only [i64_w, i32_w]; rw [c6b0]) | skip)
   have H' := Ak H
   clear H
   have hnb24 := NB333_334.out
   have hnc24 := NB334_333.out
   have hcz25_0 : w5.cell? ⟨gb333, 0, none⟩ = some (.int .i64 a0_0) := (blk_cell BK333.out 0).trans rfl
   have hcz25_1 : w5.cell? ⟨gb333, 1, none⟩ = some (.slice A0_1 l0_1.length c0_1) := (blk_cell BK333.out 1).trans rfl
   have hcz25_2 : w5.cell? ⟨gb333, 2, none⟩ = some (.slice A0_2 l0_2.length c0_2) := (blk_cell BK333.out 2).trans rfl
   have hcz25_3 : w5.cell? ⟨gb333, 3, none⟩ = some (.string a0_3) := (blk_cell BK333.out 3).trans rfl
   have hcz25_4 : w5.cell? ⟨gb333, 4, none⟩ = some (.slice A0_4 l0_4.length c0_4) := (blk_cell BK333.out 4).trans rfl
   have hfz25_0 := bfz BK333.out 0
   have hfz25_1 := bfz BK333.out 1
   have hfz25_2 := bfz BK333.out 2
   have hfz25_3 := bfz BK333.out 3
   have hfz25_4 := bfz BK333.out 4
   have hcz26_0 : w5.cell? ⟨gb334, 0, none⟩ = some (.int .i64 a1_0) := (blk_cell BK334.out 0).trans rfl
   have hcz26_1 : w5.cell? ⟨gb334, 1, none⟩ = some (.slice A1_1 l1_1.length c1_1) := (blk_cell BK334.out 1).trans rfl
   have hcz26_2 : w5.cell? ⟨gb334, 2, none⟩ = some (.slice A1_2 l1_2.length c1_2) := (blk_cell BK334.out 2).trans rfl
   have hcz26_3 : w5.cell? ⟨gb334, 3, none⟩ = some (.string a1_3) := (blk_cell BK334.out 3).trans rfl
   have hcz26_4 : w5.cell? ⟨gb334, 4, none⟩ = some (.slice A1_4 l1_4.length c1_4) := (blk_cell BK334.out 4).trans rfl
   have hfz26_0 := bfz BK334.out 0
   have hfz26_1 := bfz BK334.out 1
   have hfz26_2 := bfz BK334.out 2
   have hfz26_3 := bfz BK334.out 3
   have hfz26_4 := bfz BK334.out 4
   go_wp2
   repeat (go_quiet (fail); try go_wp2)
   go_meet
   case rel => exact ⟨_, (true), Z11, H', ⟨Z63⟩, ⟨Z115⟩, ⟨by refine bz ?_; exact BK334.out⟩, ⟨Z9⟩⟩
 case rest =>
  clear HC3
  try clear c1
  try clear c2
  try clear p2
  try clear c3
  try clear c6
  try clear c6b0
  try clear c6b1
  try clear c7
  try clear c7b0
  try clear c7b1
  try clear c9
  try clear c11
  try clear c12
  try clear c15
  try clear c18
  try clear c21
  try clear c24
  try clear hcz13_0
  try clear hcz13_1
  try clear hcz13_2
  try clear hcz13_3
  try clear hcz13_4
  try clear hcz14_0
  try clear hcz14_1
  try clear hcz14_2
  try clear hcz14_3
  try clear hcz14_4
  try clear hcz16_0
  try clear hcz16_1
  try clear hcz16_2
  try clear hcz16_3
  try clear hcz16_4
  try clear hcz17_0
  try clear hcz17_1
  try clear hcz17_2
  try clear hcz17_3
  try clear hcz17_4
  try clear hcz19_0
  try clear hcz19_1
  try clear hcz19_2
  try clear hcz19_3
  try clear hcz19_4
  try clear hcz20_0
  try clear hcz20_1
  try clear hcz20_2
  try clear hcz20_3
  try clear hcz20_4
  try clear hcz22_0
  try clear hcz22_1
  try clear hcz22_2
  try clear hcz22_3
  try clear hcz22_4
  try clear hcz23_0
  try clear hcz23_1
  try clear hcz23_2
  try clear hcz23_3
  try clear hcz23_4
  try clear hcz25_0
  try clear hcz25_1
  try clear hcz25_2
  try clear hcz25_3
  try clear hcz25_4
  try clear hcz26_0
  try clear hcz26_1
  try clear hcz26_2
  try clear hcz26_3
  try clear hcz26_4
  try clear hfz13_0
  try clear hfz13_1
  try clear hfz13_2
  try clear hfz13_3
  try clear hfz13_4
  try clear hfz14_0
  try clear hfz14_1
  try clear hfz14_2
  try clear hfz14_3
  try clear hfz14_4
  try clear hfz16_0
  try clear hfz16_1
  try clear hfz16_2
  try clear hfz16_3
  try clear hfz16_4
  try clear hfz17_0
  try clear hfz17_1
  try clear hfz17_2
  try clear hfz17_3
  try clear hfz17_4
  try clear hfz19_0
  try clear hfz19_1
  try clear hfz19_2
  try clear hfz19_3
  try clear hfz19_4
  try clear hfz20_0
  try clear hfz20_1
  try clear hfz20_2
  try clear hfz20_3
  try clear hfz20_4
  try clear hfz22_0
  try clear hfz22_1
  try clear hfz22_2
  try clear hfz22_3
  try clear hfz22_4
  try clear hfz23_0
  try clear hfz23_1
  try clear hfz23_2
  try clear hfz23_3
  try clear hfz23_4
  try clear hfz25_0
  try clear hfz25_1
  try clear hfz25_2
  try clear hfz25_3
  try clear hfz25_4
  try clear hfz26_0
  try clear hfz26_1
  try clear hfz26_2
  try clear hfz26_3
  try clear hfz26_4
  obtain ⟨kq, x42_2, rfl, HA, HJ2, BK333, BK334, HB⟩ := hcut
  cases kq with
  | zero => exact absurd HA.out (by simp [r9_SameCommit.j0])
  | succ kj2 =>
   have H := HA.out
   clear HA
   simp only [r9_SameCommit.j0] at H
   by_cases c27 : x42_2 = true
   ·subst c27
    have H1 : (some false) = some r := by rw [if_pos rfl] at H; exact H
    clear H
    have H := H1
    clear H1
    obtain rfl := Option.some.inj H
    go_wp2
    repeat (go_quiet (fail); try go_wp2)
    go_ret
    exact ⟨Z6, Z9⟩
   ·replace c27 := Bool.eq_false_iff.mpr c27
    subst c27
    have H1 : (r9_SameCommit.l0 kj2 0 a0_0 l0_1 l0_2 a0_3 l0_4 a1_0 l1_1 l1_2 a1_3 l1_4) = some r := by rw [if_neg (show ¬ (false = true) by decide)] at H; exact H
    clear H
    have H := H1
    clear H1
    have H' := Ak H
    clear H
    go_wp2
    repeat (go_quiet (fail); try go_wp2)
    go_loopg [5] kj2 (fun kq v5 w' => ∃ (x5_2 : Int), v5 = .int .i64 x5_2 ∧ Aside0 (r9_SameCommit.l0 kq x5_2 a0_0 l0_1 l0_2 a0_3 l0_4 a1_0 l1_1 l1_2 a1_3 l1_4 = some r) ∧ Aside0 (kq ≤ kj2) ∧ Aside0 (w'.heap[gb333]? = some (.cells #[.int .i64 a0_0, (.slice A0_1 l0_1.length c0_1), (.slice A0_2 l0_2.length c0_2), .string a0_3, (.slice A0_4 l0_4.length c0_4)] 35 (0, 0))) ∧ Aside0 (w'.heap[gb334]? = some (.cells #[.int .i64 a1_0, (.slice A1_1 l1_1.length c1_1), (.slice A1_2 l1_2.length c1_2), .string a1_3, (.slice A1_4 l1_4.length c1_4)] 35 (0, 0))) ∧ Aside0 (Below w.heap.size w w'))
    case atStart => exact ⟨(0), Z11, H', ⟨Nat.le_refl _⟩, ⟨Z115⟩, ⟨by refine bz ?_; exact BK334.out⟩, ⟨Z9⟩⟩
    case round =>
     clear H'
     try clear c1
     try clear c2
     try clear p2
     try clear c3
     try clear c6
     try clear c6b0
     try clear c6b1
     try clear c7
     try clear c7b0
     try clear c7b1
     try clear c9
     try clear c11
     try clear c12
     try clear c15
     try clear c18
     try clear c21
     try clear c24
     try clear c27
     try clear hcz13_0
     try clear hcz13_1
     try clear hcz13_2
     try clear hcz13_3
     try clear hcz13_4
     try clear hcz14_0
     try clear hcz14_1
     try clear hcz14_2
     try clear hcz14_3
     try clear hcz14_4
     try clear hcz16_0
     try clear hcz16_1
     try clear hcz16_2
     try clear hcz16_3
     try clear hcz16_4
     try clear hcz17_0
     try clear hcz17_1
     try clear hcz17_2
     try clear hcz17_3
     try clear hcz17_4
     try clear hcz19_0
     try clear hcz19_1
     try clear hcz19_2
     try clear hcz19_3
     try clear hcz19_4
     try clear hcz20_0
     try clear hcz20_1
     try clear hcz20_2
     try clear hcz20_3
     try clear hcz20_4
     try clear hcz22_0
     try clear hcz22_1
     try clear hcz22_2
     try clear hcz22_3
     try clear hcz22_4
     try clear hcz23_0
     try clear hcz23_1
     try clear hcz23_2
     try clear hcz23_3
     try clear hcz23_4
     try clear hcz25_0
     try clear hcz25_1
     try clear hcz25_2
     try clear hcz25_3
     try clear hcz25_4
     try clear hcz26_0
     try clear hcz26_1
     try clear hcz26_2
     try clear hcz26_3
     try clear hcz26_4
     try clear hfz13_0
     try clear hfz13_1
     try clear hfz13_2
     try clear hfz13_3
     try clear hfz13_4
     try clear hfz14_0
     try clear hfz14_1
     try clear hfz14_2
     try clear hfz14_3
     try clear hfz14_4
     try clear hfz16_0
     try clear hfz16_1
     try clear hfz16_2
     try clear hfz16_3
     try clear hfz16_4
     try clear hfz17_0
     try clear hfz17_1
     try clear hfz17_2
     try clear hfz17_3
     try clear hfz17_4
     try clear hfz19_0
     try clear hfz19_1
     try clear hfz19_2
     try clear hfz19_3
     try clear hfz19_4
     try clear hfz20_0
     try clear hfz20_1
     try clear hfz20_2
     try clear hfz20_3
     try clear hfz20_4
     try clear hfz22_0
     try clear hfz22_1
     try clear hfz22_2
     try clear hfz22_3
     try clear hfz22_4
     try clear hfz23_0
     try clear hfz23_1
     try clear hfz23_2
     try clear hfz23_3
     try clear hfz23_4
     try clear hfz25_0
     try clear hfz25_1
     try clear hfz25_2
     try clear hfz25_3
     try clear hfz25_4
     try clear hfz26_0
     try clear hfz26_1
     try clear hfz26_2
     try clear hfz26_3
     try clear hfz26_4
     try clear p2
     obtain ⟨x5_2, rfl, HA, HK2, BK333, BK334, HB⟩ := hrel
     cases gk with
     | zero => exact absurd HA.out (by simp [r9_SameCommit.l0])
     | succ k2 =>
      have H := HA.out
      clear HA
      simp only [r9_SameCommit.l0] at H
      by_cases c28 : x5_2 < (l0_4.length : Int)
      ·rw [if_pos c28] at H
       have c28b0 : decide (x5_2 < (l0_4.length : Int)) = true := decide_eq_true c28
       clear c28
       by_cases c29 : 0 ≤ x5_2
       ·rw [if_pos c29] at H
        have c29b0 : decide (0 ≤ x5_2) = true := decide_eq_true c29
        clear c29
        by_cases c30 : x5_2 < (l1_4.length : Int)
        ·rw [if_pos c30] at H
         have c30b0 : decide (x5_2 < (l1_4.length : Int)) = true := decide_eq_true c30
         clear c30
         by_cases c31 : (!(((rd_T110 l0_4 x5_2).f0) == ((rd_T110 l1_4 x5_2).f0)) || (!(((rd_T110 l0_4 x5_2).f1) == ((rd_T110 l1_4 x5_2).f1)) || ((!(((rd_T110 l0_4 x5_2).f2.f0) == ((rd_T110 l1_4 x5_2).f2.f0)) || (!(((rd_T110 l0_4 x5_2).f2.f1) == ((rd_T110 l1_4 x5_2).f2.f1)) || (!((((rd_T110 l0_4 x5_2).f2.f2).toList) == (((rd_T110 l1_4 x5_2).f2.f2).toList)) || (!(((rd_T110 l0_4 x5_2).f2.f3) == ((rd_T110 l1_4 x5_2).f2.f3))))))))) = true
         ·rw [if_pos c31] at H
          have c31b0 : (!(((rd_T110 l0_4 x5_2).f0) == ((rd_T110 l1_4 x5_2).f0)) || (!(((rd_T110 l0_4 x5_2).f1) == ((rd_T110 l1_4 x5_2).f1)) || ((!(((rd_T110 l0_4 x5_2).f2.f0) == ((rd_T110 l1_4 x5_2).f2.f0)) || (!(((rd_T110 l0_4 x5_2).f2.f1) == ((rd_T110 l1_4 x5_2).f2.f1)) || (!((((rd_T110 l0_4 x5_2).f2.f2).toList) == (((rd_T110 l1_4 x5_2).f2.f2).toList)) || (!(((rd_T110 l0_4 x5_2).f2.f3) == ((rd_T110 l1_4 x5_2).f2.f3))))))))) = true := c31
          clear c31
          obtain rfl := Option.some.inj H
          have hnb32 := NB333_334.out
          have hnc32 := NB334_333.out
          have hcz33_0 : wr.cell? ⟨gb333, 0, none⟩ = some (.int .i64 a0_0) := (blk_cell BK333.out 0).trans rfl
          have hcz33_1 : wr.cell? ⟨gb333, 1, none⟩ = some (.slice A0_1 l0_1.length c0_1) := (blk_cell BK333.out 1).trans rfl
          have hcz33_2 : wr.cell? ⟨gb333, 2, none⟩ = some (.slice A0_2 l0_2.length c0_2) := (blk_cell BK333.out 2).trans rfl
          have hcz33_3 : wr.cell? ⟨gb333, 3, none⟩ = some (.string a0_3) := (blk_cell BK333.out 3).trans rfl
          have hcz33_4 : wr.cell? ⟨gb333, 4, none⟩ = some (.slice A0_4 l0_4.length c0_4) := (blk_cell BK333.out 4).trans rfl
          have hfz33_0 := bfz BK333.out 0
          have hfz33_1 := bfz BK333.out 1
          have hfz33_2 := bfz BK333.out 2
          have hfz33_3 := bfz BK333.out 3
          have hfz33_4 := bfz BK333.out 4
          have p337 : 0 ≤ (x5_2 : Int) := of_decide_eq_true Z20
          have q337 : x5_2 < (l0_4.length : Int) := of_decide_eq_true Z20
          obtain ⟨ad337, e337, hx337_0, hx337_1, hx337_2, hx337_3, hx337_4, hx337_5⟩ := at_T110 HR0_4.out x5_2 p337 q337
          cases e337
          replace hx337_0 := (HB.out.cell (World.block_lt_of_cell? w _ hx337_0)).trans hx337_0
          replace hx337_1 := (HB.out.cell (World.block_lt_of_cell? w _ hx337_1)).trans hx337_1
          replace hx337_2 := (HB.out.cell (World.block_lt_of_cell? w _ hx337_2)).trans hx337_2
          replace hx337_3 := (HB.out.cell (World.block_lt_of_cell? w _ hx337_3)).trans hx337_3
          replace hx337_4 := (HB.out.cell (World.block_lt_of_cell? w _ hx337_4)).trans hx337_4
          replace hx337_5 := (HB.out.cell (World.block_lt_of_cell? w _ hx337_5)).trans hx337_5
          replace p337 := eq_true p337
          replace q337 := eq_true q337
          have hcz34_0 : wr.cell? ⟨gb334, 0, none⟩ = some (.int .i64 a1_0) := (blk_cell BK334.out 0).trans rfl
          have hcz34_1 : wr.cell? ⟨gb334, 1, none⟩ = some (.slice A1_1 l1_1.length c1_1) := (blk_cell BK334.out 1).trans rfl
          have hcz34_2 : wr.cell? ⟨gb334, 2, none⟩ = some (.slice A1_2 l1_2.length c1_2) := (blk_cell BK334.out 2).trans rfl
          have hcz34_3 : wr.cell? ⟨gb334, 3, none⟩ = some (.string a1_3) := (blk_cell BK334.out 3).trans rfl
          have hcz34_4 : wr.cell? ⟨gb334, 4, none⟩ = some (.slice A1_4 l1_4.length c1_4) := (blk_cell BK334.out 4).trans rfl
          have hfz34_0 := bfz BK334.out 0
          have hfz34_1 := bfz BK334.out 1
          have hfz34_2 := bfz BK334.out 2
          have hfz34_3 := bfz BK334.out 3
          have hfz34_4 := bfz BK334.out 4
          have p338 : 0 ≤ (x5_2 : Int) := of_decide_eq_true Z20
          have q338 : x5_2 < (l1_4.length : Int) := of_decide_eq_true Z20
          obtain ⟨ad338, e338, hx338_0, hx338_1, hx338_2, hx338_3, hx338_4, hx338_5⟩ := at_T110 HR1_4.out x5_2 p338 q338
          cases e338
          replace hx338_0 := (HB.out.cell (World.block_lt_of_cell? w _ hx338_0)).trans hx338_0
          replace hx338_1 := (HB.out.cell (World.block_lt_of_cell? w _ hx338_1)).trans hx338_1
          replace hx338_2 := (HB.out.cell (World.block_lt_of_cell? w _ hx338_2)).trans hx338_2
          replace hx338_3 := (HB.out.cell (World.block_lt_of_cell? w _ hx338_3)).trans hx338_3
          replace hx338_4 := (HB.out.cell (World.block_lt_of_cell? w _ hx338_4)).trans hx338_4
          replace hx338_5 := (HB.out.cell (World.block_lt_of_cell? w _ hx338_5)).trans hx338_5
          replace p338 := eq_true p338
          replace q338 := eq_true q338
          go_wp2
          repeat (go_quiet (fail); try go_wp2)
          go_ret
          exact ⟨Z6, Z9⟩
         ·rw [if_neg c31] at H
          have c31b0 : (!(((rd_T110 l0_4 x5_2).f0) == ((rd_T110 l1_4 x5_2).f0)) || (!(((rd_T110 l0_4 x5_2).f1) == ((rd_T110 l1_4 x5_2).f1)) || ((!(((rd_T110 l0_4 x5_2).f2.f0) == ((rd_T110 l1_4 x5_2).f2.f0)) || (!(((rd_T110 l0_4 x5_2).f2.f1) == ((rd_T110 l1_4 x5_2).f2.f1)) || (!((((rd_T110 l0_4 x5_2).f2.f2).toList) == (((rd_T110 l1_4 x5_2).f2.f2).toList)) || (!(((rd_T110 l0_4 x5_2).f2.f3) == ((rd_T110 l1_4 x5_2).f2.f3))))))))) = false := by simpa using c31
          clear c31
          have H' := Ak H
          clear H
          have hnb35 := NB333_334.out
          have hnc35 := NB334_333.out
          have hcz36_0 : wr.cell? ⟨gb333, 0, none⟩ = some (.int .i64 a0_0) := (blk_cell BK333.out 0).trans rfl
          have hcz36_1 : wr.cell? ⟨gb333, 1, none⟩ = some (.slice A0_1 l0_1.length c0_1) := (blk_cell BK333.out 1).trans rfl
          have hcz36_2 : wr.cell? ⟨gb333, 2, none⟩ = some (.slice A0_2 l0_2.length c0_2) := (blk_cell BK333.out 2).trans rfl
          have hcz36_3 : wr.cell? ⟨gb333, 3, none⟩ = some (.string a0_3) := (blk_cell BK333.out 3).trans rfl
          have hcz36_4 : wr.cell? ⟨gb333, 4, none⟩ = some (.slice A0_4 l0_4.length c0_4) := (blk_cell BK333.out 4).trans rfl
          have hfz36_0 := bfz BK333.out 0
          have hfz36_1 := bfz BK333.out 1
          have hfz36_2 := bfz BK333.out 2
          have hfz36_3 := bfz BK333.out 3
          have hfz36_4 := bfz BK333.out 4
          have p337 : 0 ≤ (x5_2 : Int) := of_decide_eq_true Z20
          have q337 : x5_2 < (l0_4.length : Int) := of_decide_eq_true Z20
          obtain ⟨ad337, e337, hx337_0, hx337_1, hx337_2, hx337_3, hx337_4, hx337_5⟩ := at_T110 HR0_4.out x5_2 p337 q337
          cases e337
          replace hx337_0 := (HB.out.cell (World.block_lt_of_cell? w _ hx337_0)).trans hx337_0
          replace hx337_1 := (HB.out.cell (World.block_lt_of_cell? w _ hx337_1)).trans hx337_1
          replace hx337_2 := (HB.out.cell (World.block_lt_of_cell? w _ hx337_2)).trans hx337_2
          replace hx337_3 := (HB.out.cell (World.block_lt_of_cell? w _ hx337_3)).trans hx337_3
          replace hx337_4 := (HB.out.cell (World.block_lt_of_cell? w _ hx337_4)).trans hx337_4
          replace hx337_5 := (HB.out.cell (World.block_lt_of_cell? w _ hx337_5)).trans hx337_5
          replace p337 := eq_true p337
          replace q337 := eq_true q337
          have hcz37_0 : wr.cell? ⟨gb334, 0, none⟩ = some (.int .i64 a1_0) := (blk_cell BK334.out 0).trans rfl
          have hcz37_1 : wr.cell? ⟨gb334, 1, none⟩ = some (.slice A1_1 l1_1.length c1_1) := (blk_cell BK334.out 1).trans rfl
          have hcz37_2 : wr.cell? ⟨gb334, 2, none⟩ = some (.slice A1_2 l1_2.length c1_2) := (blk_cell BK334.out 2).trans rfl
          have hcz37_3 : wr.cell? ⟨gb334, 3, none⟩ = some (.string a1_3) := (blk_cell BK334.out 3).trans rfl
          have hcz37_4 : wr.cell? ⟨gb334, 4, none⟩ = some (.slice A1_4 l1_4.length c1_4) := (blk_cell BK334.out 4).trans rfl
          have hfz37_0 := bfz BK334.out 0
          have hfz37_1 := bfz BK334.out 1
          have hfz37_2 := bfz BK334.out 2
          have hfz37_3 := bfz BK334.out 3
          have hfz37_4 := bfz BK334.out 4
          have p338 : 0 ≤ (x5_2 : Int) := of_decide_eq_true Z20
          have q338 : x5_2 < (l1_4.length : Int) := of_decide_eq_true Z20
          obtain ⟨ad338, e338, hx338_0, hx338_1, hx338_2, hx338_3, hx338_4, hx338_5⟩ := at_T110 HR1_4.out x5_2 p338 q338
          cases e338
          replace hx338_0 := (HB.out.cell (World.block_lt_of_cell? w _ hx338_0)).trans hx338_0
          replace hx338_1 := (HB.out.cell (World.block_lt_of_cell? w _ hx338_1)).trans hx338_1
          replace hx338_2 := (HB.out.cell (World.block_lt_of_cell? w _ hx338_2)).trans hx338_2
          replace hx338_3 := (HB.out.cell (World.block_lt_of_cell? w _ hx338_3)).trans hx338_3
          replace hx338_4 := (HB.out.cell (World.block_lt_of_cell? w _ hx338_4)).trans hx338_4
          replace hx338_5 := (HB.out.cell (World.block_lt_of_cell? w _ hx338_5)).trans hx338_5
          replace p338 := eq_true p338
          replace q338 := eq_true q338
          go_wp2
          repeat (go_quiet (fail); try go_wp2)
          go_roundg k2
          case measure => have := HJ2.out; have := HK2.out; omega
          case rel => exact ⟨(wrap64 (x5_2 + 1)), Z11, H', ⟨by have := HJ2.out; have := HK2.out; omega⟩, ⟨Z115⟩, ⟨by refine bz ?_; exact BK334.out⟩, ⟨Z9⟩⟩
        ·rw [if_neg c30] at H
         exact absurd H (by simp)
       ·rw [if_neg c29] at H
        exact absurd H (by simp)
      ·rw [if_neg c28] at H
       have c28b0 : decide (x5_2 < (l0_4.length : Int)) = false := decide_eq_false c28
       clear c28
       obtain rfl := Option.some.inj H
       have hnb38 := NB333_334.out
       have hnc38 := NB334_333.out
       have hcz39_0 : wr.cell? ⟨gb333, 0, none⟩ = some (.int .i64 a0_0) := (blk_cell BK333.out 0).trans rfl
       have hcz39_1 : wr.cell? ⟨gb333, 1, none⟩ = some (.slice A0_1 l0_1.length c0_1) := (blk_cell BK333.out 1).trans rfl
       have hcz39_2 : wr.cell? ⟨gb333, 2, none⟩ = some (.slice A0_2 l0_2.length c0_2) := (blk_cell BK333.out 2).trans rfl
       have hcz39_3 : wr.cell? ⟨gb333, 3, none⟩ = some (.string a0_3) := (blk_cell BK333.out 3).trans rfl
       have hcz39_4 : wr.cell? ⟨gb333, 4, none⟩ = some (.slice A0_4 l0_4.length c0_4) := (blk_cell BK333.out 4).trans rfl
       have hfz39_0 := bfz BK333.out 0
       have hfz39_1 := bfz BK333.out 1
       have hfz39_2 := bfz BK333.out 2
       have hfz39_3 := bfz BK333.out 3
       have hfz39_4 := bfz BK333.out 4
       go_wp2
       repeat (go_quiet (fail); try go_wp2)
       go_ret
       exact ⟨Z6, Z9⟩
end Go.Proofs.YtmmjnbpoilicjaaGreat.Q
