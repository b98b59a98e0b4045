/- What functions of the program compute, and that their code computes it (turned out of what the printer of the kit wrote), part 7. -/
import Derived.Test.YtmmjnbpoilicjaaGreatBQa
import Derived.Test.YtmmjnbpoilicjaaGreatBQx0
import Derived.Test.YtmmjnbpoilicjaaGreatBQx2
import Derived.Test.YtmmjnbpoilicjaaGreatBQx4
import Derived.Test.YtmmjnbpoilicjaaGreatBQx6
import Derived.Test.YtmmjnbpoilicjaaGreatBQx7
set_option linter.unusedVariables false
set_option linter.unusedSimpArgs false
namespace Go.Proofs.YtmmjnbpoilicjaaGreat.Q
open Go.RowKit Go.Proofs.YtmmjnbpoilicjaaGreatW.PrintWords Go.Proofs.YtmmjnbpoilicjaaGreatW.PrintLast Go.Proofs.YtmmjnbpoilicjaaGreatW.PrintMore
attribute [local go_sem] max2_int min2_int max_two min_two max_three min_three max_four min_four   -- for this text's walks alone
def r9_SameCommits.l0 : Nat → List (S35) → List (S35) → Int → Option (Bool)
 | 0, _, _, _ => none
 | k + 1, x0, x1, x5 => if x5 < (x0.length : Int) then (if 0 ≤ x5 then (if x5 < (x1.length : Int) then ((r9_SameCommit.f k ((rd_T35 x0 x5).f0) ((rd_T35 x0 x5).f1) ((rd_T35 x0 x5).f2) ((rd_T35 x0 x5).f3) ((rd_T35 x0 x5).f4) ((rd_T35 x1 x5).f0) ((rd_T35 x1 x5).f1) ((rd_T35 x1 x5).f2) ((rd_T35 x1 x5).f3) ((rd_T35 x1 x5).f4)).bind fun t341 => (if t341 = true then (r9_SameCommits.l0 k x0 x1 (wrap64 (x5 + 1))) else (some false))) else (none)) else (none)) else (some true)
def r9_SameCommits.f (k : Nat) (l0 : List (S35)) (l1 : List (S35)) : Option (Bool) := if (l0.length : Int) = (l1.length : Int) then (r9_SameCommits.l0 k l0 l1 0) else (some false)
def r9_SameCommits.T6 : Bool × List (List Nat × List Nat) := (true, [([], []), ([], []), ([0, 1], [0, 1]), ([2], [2]), ([], []), ([], []), ([4, 5], [4, 5]), ([6], [6]), ([3, 7], [3, 7]), ([8], [8])])
def r9_SameCommits.B6 : List Nat := [0, 0, 3, 7, 0, 0, 48, 112, 255, 511]
theorem r9_SameCommits.tab6 : rtab .any (opsOf Tryz.f17 6) = r9_SameCommits.T6 := by kernel_rfl
theorem r9_SameCommits.bits6 : waitsOk r9_SameCommits.T6.2 r9_SameCommits.B6 = true := by kernel_rfl
set_option maxHeartbeats 8000000 in
set_option maxRecDepth 100000 in
theorem r9_SameCommits.calls (k : Nat) (A0 : Option Addr) (c0 : Nat) (l0 : List (S35)) (A1 : Option Addr) (c1 : Nat) (l1 : List (S35)) (r : Bool) (w : World) (hr0 : Kd.C k35 w A0 l0.length l0) (hc0 : l0.length ≤ c0) (hr1 : Kd.C k35 w A1 l1.length l1) (hc1 : l1.length ≤ c1) (h : r9_SameCommits.f k l0 l1 = some r) :
  Calls Tryz.prog 17 #[.slice A0 l0.length c0, .slice A1 l1.length c1] w fun e w' => e = .returned (.bool r) ∧ Below w.heap.size w w' := by
 have hu35 := Tryz.underlying35
 have HR0 := Ak hr0
 have HC0 := Ak hc0
 clear hr0 hc0
 have HR1 := Ak hr1
 have HC1 := Ak hc1
 clear hr1 hc1
 have HB := Ak (Below.refl w.heap.size w)
 have H : (if (l0.length : Int) = (l1.length : Int) then (r9_SameCommits.l0 k l0 l1 0) else (some false)) = some r := h
 clear h
 by_cases c3 : (l0.length : Int) = (l1.length : Int)
 ·rw [if_pos c3] at H
  have c3b0 : ((l0.length : Int) == (l1.length : Int)) = true := beq_iff_eq.mpr c3
  have c3b1 : ((l0.length : Int) != (l1.length : Int)) = false := bne_eq_false_iff_eq.mpr c3
  have c3b2 : (l0.length == l1.length) = true := by first | simpa using c3 | (simp at c3 ⊢; omega)
  clear c3
  have H' := Ak H
  clear H
  go_enter Tryz.func17, Tryz.ntmps17
  go_wp2
  go_loopg [5] k (fun kq v5 w' => ∃ (x5_1 : Int), v5 = .int .i64 x5_1 ∧ Aside0 (r9_SameCommits.l0 kq l0 l1 x5_1 = some r) ∧ Aside0 (kq ≤ k) ∧ Aside0 (Below w.heap.size w w'))
  case atStart => exact ⟨(0), Z11, H', ⟨Nat.le_refl _⟩, ⟨Z1⟩⟩
  case round =>
   clear H'
   try clear c1
   try clear p2
   try clear c3
   try clear c3b0
   try clear c3b1
   try clear c3b2
   obtain ⟨x5_1, rfl, HA, HK1, HB⟩ := hrel
   cases gk with
   | zero => exact absurd HA.out (by simp [r9_SameCommits.l0])
   | succ k1 =>
    have H := HA.out
    clear HA
    simp only [r9_SameCommits.l0] at H
    by_cases c4 : x5_1 < (l0.length : Int)
    ·rw [if_pos c4] at H
     have c4b0 : decide (x5_1 < (l0.length : Int)) = true := decide_eq_true c4
     clear c4
     by_cases c5 : 0 ≤ x5_1
     ·rw [if_pos c5] at H
      have c5b0 : decide (0 ≤ x5_1) = true := decide_eq_true c5
      clear c5
      by_cases c6 : x5_1 < (l1.length : Int)
      ·rw [if_pos c6] at H
       have c6b0 : decide (x5_1 < (l1.length : Int)) = true := decide_eq_true c6
       clear c6
       replace H := Option.bind_eq_some_iff.mp H
       obtain ⟨t341, A70, H⟩ := H
       replace H : (if t341 = true then (r9_SameCommits.l0 k1 l0 l1 (wrap64 (x5_1 + 1))) else (some false)) = some r := H
       have A7 := Ak A70
       clear A70
       by_cases c8 : t341 = true
       ·subst c8
        have H1 : (r9_SameCommits.l0 k1 l0 l1 (wrap64 (x5_1 + 1))) = some r := by rw [if_pos rfl] at H; exact H
        clear H
        have H := H1
        clear H1
        have H' := Ak H
        clear H
        try go_wp2
        have n0_ := Ak (below_drew1 HB.out)
        clear HB
        have HB := n0_
        clear n0_
        have p339 : 0 ≤ (x5_1 : Int) := of_decide_eq_true Z20
        have q339 : x5_1 < (l0.length : Int) := of_decide_eq_true Z20
        obtain ⟨ad339, A339_1, c339_1, A339_2, c339_2, A339_4, c339_4, e339, hx339_0, hx339_1, hx339_2, hx339_3, hx339_4, hl339_1, hi339_1, hl339_2, hi339_2, hl339_4, hi339_4⟩ := at_T35 HR0.out x5_1 p339 q339
        have hw339_4 := hx339_4
        have hw339_3 := hx339_3
        have hw339_2 := hx339_2
        have hw339_1 := hx339_1
        have hw339_0 := hx339_0
        cases e339
        replace hx339_0 := (HB.out.cell (World.block_lt_of_cell? w _ hx339_0)).trans hx339_0
        replace hx339_1 := (HB.out.cell (World.block_lt_of_cell? w _ hx339_1)).trans hx339_1
        replace hx339_2 := (HB.out.cell (World.block_lt_of_cell? w _ hx339_2)).trans hx339_2
        replace hx339_3 := (HB.out.cell (World.block_lt_of_cell? w _ hx339_3)).trans hx339_3
        replace hx339_4 := (HB.out.cell (World.block_lt_of_cell? w _ hx339_4)).trans hx339_4
        have HR339_1 := Ak hi339_1
        have HC339_1 := Ak hl339_1
        clear hi339_1 hl339_1
        have HR339_2 := Ak hi339_2
        have HC339_2 := Ak hl339_2
        clear hi339_2 hl339_2
        have HR339_4 := Ak hi339_4
        have HC339_4 := Ak hl339_4
        clear hi339_4 hl339_4
        replace p339 := eq_true p339
        replace q339 := eq_true q339
        have p340 : 0 ≤ (x5_1 : Int) := of_decide_eq_true Z20
        have q340 : x5_1 < (l1.length : Int) := of_decide_eq_true Z20
        obtain ⟨ad340, A340_1, c340_1, A340_2, c340_2, A340_4, c340_4, e340, hx340_0, hx340_1, hx340_2, hx340_3, hx340_4, hl340_1, hi340_1, hl340_2, hi340_2, hl340_4, hi340_4⟩ := at_T35 HR1.out x5_1 p340 q340
        have hw340_4 := hx340_4
        have hw340_3 := hx340_3
        have hw340_2 := hx340_2
        have hw340_1 := hx340_1
        have hw340_0 := hx340_0
        cases e340
        replace hx340_0 := (HB.out.cell (World.block_lt_of_cell? w _ hx340_0)).trans hx340_0
        replace hx340_1 := (HB.out.cell (World.block_lt_of_cell? w _ hx340_1)).trans hx340_1
        replace hx340_2 := (HB.out.cell (World.block_lt_of_cell? w _ hx340_2)).trans hx340_2
        replace hx340_3 := (HB.out.cell (World.block_lt_of_cell? w _ hx340_3)).trans hx340_3
        replace hx340_4 := (HB.out.cell (World.block_lt_of_cell? w _ hx340_4)).trans hx340_4
        have HR340_1 := Ak hi340_1
        have HC340_1 := Ak hl340_1
        clear hi340_1 hl340_1
        have HR340_2 := Ak hi340_2
        have HC340_2 := Ak hl340_2
        clear hi340_2 hl340_2
        have HR340_4 := Ak hi340_4
        have HC340_4 := Ak hl340_4
        clear hi340_4 hl340_4
        replace p340 := eq_true p340
        replace q340 := eq_true q340
        refine start_ (n := 10) (S := fun w' => w'.cell? (ad339.add ((x5_1).toNat * 5)) = some (.int .i64 ((rd_T35 l0 x5_1).f0)) ∧ w'.cell? ⟨(ad339.add ((x5_1).toNat * 5)).block, (ad339.add ((x5_1).toNat * 5)).off + 1, none⟩ = some (.slice A339_1 ((rd_T35 l0 x5_1).f1).length c339_1) ∧ w'.cell? ⟨(ad339.add ((x5_1).toNat * 5)).block, (ad339.add ((x5_1).toNat * 5)).off + 2, none⟩ = some (.slice A339_2 ((rd_T35 l0 x5_1).f2).length c339_2) ∧ w'.cell? ⟨(ad339.add ((x5_1).toNat * 5)).block, (ad339.add ((x5_1).toNat * 5)).off + 3, none⟩ = some (.string ((rd_T35 l0 x5_1).f3)) ∧ w'.cell? ⟨(ad339.add ((x5_1).toNat * 5)).block, (ad339.add ((x5_1).toNat * 5)).off + 4, none⟩ = some (.slice A339_4 ((rd_T35 l0 x5_1).f4).length c339_4) ∧ w'.cell? (ad340.add ((x5_1).toNat * 5)) = some (.int .i64 ((rd_T35 l1 x5_1).f0)) ∧ w'.cell? ⟨(ad340.add ((x5_1).toNat * 5)).block, (ad340.add ((x5_1).toNat * 5)).off + 1, none⟩ = some (.slice A340_1 ((rd_T35 l1 x5_1).f1).length c340_1) ∧ w'.cell? ⟨(ad340.add ((x5_1).toNat * 5)).block, (ad340.add ((x5_1).toNat * 5)).off + 2, none⟩ = some (.slice A340_2 ((rd_T35 l1 x5_1).f2).length c340_2) ∧ w'.cell? ⟨(ad340.add ((x5_1).toNat * 5)).block, (ad340.add ((x5_1).toNat * 5)).off + 3, none⟩ = some (.string ((rd_T35 l1 x5_1).f3)) ∧ w'.cell? ⟨(ad340.add ((x5_1).toNat * 5)).block, (ad340.add ((x5_1).toNat * 5)).off + 4, none⟩ = some (.slice A340_4 ((rd_T35 l1 x5_1).f4).length c340_4)) (ds := []) #[false, false, false, false, false, false, false, false, false, false] Z76 rfl rfl ⟨((HB.out.cell (World.block_lt_of_cell? w _ hw339_0)).trans hw339_0), ((HB.out.cell (World.block_lt_of_cell? w _ hw339_1)).trans hw339_1), ((HB.out.cell (World.block_lt_of_cell? w _ hw339_2)).trans hw339_2), ((HB.out.cell (World.block_lt_of_cell? w _ hw339_3)).trans hw339_3), ((HB.out.cell (World.block_lt_of_cell? w _ hw339_4)).trans hw339_4), ((HB.out.cell (World.block_lt_of_cell? w _ hw340_0)).trans hw340_0), ((HB.out.cell (World.block_lt_of_cell? w _ hw340_1)).trans hw340_1), ((HB.out.cell (World.block_lt_of_cell? w _ hw340_2)).trans hw340_2), ((HB.out.cell (World.block_lt_of_cell? w _ hw340_3)).trans hw340_3), ((HB.out.cell (World.block_lt_of_cell? w _ hw340_4)).trans hw340_4)⟩ (fun hHeld => ?_); refine with_tabW r9_SameCommits.tab6 r9_SameCommits.bits6 (fun HT_ HW_ => ?_)
        generalize wr.drew = w9 at HB HR339_1 HR339_2 HR339_4 HR340_1 HR340_2 HR340_4 hx339_0 hx339_1 hx339_2 hx339_3 hx339_4 hx340_0 hx340_1 hx340_2 hx340_3 hx340_4 hHeld ⊢
        refine pure_ (i := 0) (N := some 17) (v := ?_) (a' := ?_) #[true, false, false, false, false, false, false, false, false, false] rfl rfl (any_of HT_.out Z76) (fun _ _ _ h => h) (Or.inl ⟨by rfl, ?_⟩) ?_ ?_
        rotate_left
        ·intro w'
         go_simp
         with_reducible rfl
        rotate_left
        ·simp only [Act.put, List.setIfInBounds_toArray, List.set_cons_zero, List.set_cons_succ, i64_w, i32_w]
         rfl
        refine pure_ (i := 1) (N := some 18) (v := ?_) (a' := ?_) #[true, true, false, false, false, false, false, false, false, false] rfl rfl (any_of HT_.out Z76) (fun _ _ _ h => h) (Or.inl ⟨by rfl, ?_⟩) ?_ ?_
        rotate_left
        ·intro w'
         go_simp
         with_reducible rfl
        rotate_left
        ·simp only [Act.put, List.setIfInBounds_toArray, List.set_cons_zero, List.set_cons_succ, i64_w, i32_w]
         rfl
        refine pure_ (i := 2) (N := some 19) (v := ?_) (a' := ?_) #[true, true, true, false, false, false, false, false, false, false] rfl rfl (any_of HT_.out Z76) (fun _ _ _ h => h) (Or.inl ⟨by rfl, ?_⟩) ?_ ?_
        rotate_left
        ·intro w'
         go_simp
         with_reducible rfl
        rotate_left
        ·simp only [Act.put, List.setIfInBounds_toArray, List.set_cons_zero, List.set_cons_succ, i64_w, i32_w]
         rfl
        refine pure_ (i := 4) (N := some 21) (v := ?_) (a' := ?_) #[true, true, true, false, true, false, false, false, false, false] rfl rfl (any_of HT_.out Z76) (fun _ _ _ h => h) (Or.inl ⟨by rfl, ?_⟩) ?_ ?_
        rotate_left
        ·intro w'
         go_simp
         with_reducible rfl
        rotate_left
        ·simp only [Act.put, List.setIfInBounds_toArray, List.set_cons_zero, List.set_cons_succ, i64_w, i32_w]
         rfl
        refine pure_ (i := 5) (N := some 22) (v := ?_) (a' := ?_) #[true, true, true, false, true, true, false, false, false, false] rfl rfl (any_of HT_.out Z76) (fun _ _ _ h => h) (Or.inl ⟨by rfl, ?_⟩) ?_ ?_
        rotate_left
        ·intro w'
         go_simp
         with_reducible rfl
        rotate_left
        ·simp only [Act.put, List.setIfInBounds_toArray, List.set_cons_zero, List.set_cons_succ, i64_w, i32_w]
         rfl
        refine pure_ (i := 6) (N := some 23) (v := ?_) (a' := ?_) #[true, true, true, false, true, true, true, false, false, false] rfl rfl (any_of HT_.out Z76) (fun _ _ _ h => h) (Or.inl ⟨by rfl, ?_⟩) ?_ ?_
        rotate_left
        ·intro w'
         go_simp
         with_reducible rfl
        rotate_left
        ·simp only [Act.put, List.setIfInBounds_toArray, List.set_cons_zero, List.set_cons_succ, i64_w, i32_w]
         rfl
        refine take_ (i := 3) (N := some 20) (v := ?_) (a' := ?_) #[true, true, true, true, true, true, true, false, false, false] rfl rfl (take_ofW HT_.out HW_.out Z76) (fun _ _ _ h => h) (Or.inl ⟨by rfl, ?_⟩) hHeld ?_ ?_
        rotate_left
        ·rintro w' ⟨s0, s1, s2, s3, s4, s5, s6, s7, s8, s9⟩
         go_simp
         with_reducible rfl
        rotate_left
        ·simp only [Act.put, List.setIfInBounds_toArray, List.set_cons_zero, List.set_cons_succ, i64_w, i32_w]
         rfl
        refine take_ (i := 7) (N := some 24) (v := ?_) (a' := ?_) #[true, true, true, true, true, true, true, true, false, false] rfl rfl (take_ofW HT_.out HW_.out Z76) (fun _ _ _ h => h) (Or.inl ⟨by rfl, ?_⟩) hHeld ?_ ?_
        rotate_left
        ·rintro w' ⟨s0, s1, s2, s3, s4, s5, s6, s7, s8, s9⟩
         go_simp
         with_reducible rfl
        rotate_left
        ·simp only [Act.put, List.setIfInBounds_toArray, List.set_cons_zero, List.set_cons_succ, i64_w, i32_w]
         rfl
        refine one_ (i := 8) (N := some 25) #[true, true, true, true, true, true, true, true, true, false] rfl rfl (one_of HT_.out Z76) (by decide) (fun K hK => ?_)
        refine goes_ Tryz.func39 Z76 rfl #[.agg #[.int .i64 ((rd_T35 l0 x5_1).f0), .slice A339_1 ((rd_T35 l0 x5_1).f1).length c339_1, .slice A339_2 ((rd_T35 l0 x5_1).f2).length c339_2, .string ((rd_T35 l0 x5_1).f3), .slice A339_4 ((rd_T35 l0 x5_1).f4).length c339_4], .agg #[.int .i64 ((rd_T35 l1 x5_1).f0), .slice A340_1 ((rd_T35 l1 x5_1).f1).length c340_1, .slice A340_2 ((rd_T35 l1 x5_1).f2).length c340_2, .string ((rd_T35 l1 x5_1).f3), .slice A340_4 ((rd_T35 l1 x5_1).f4).length c340_4]] (by rfl) rfl rfl Z4 ?_
        with_reducible refine (r9_SameCommit.calls k1 ((rd_T35 l0 x5_1).f0) _ _ ((rd_T35 l0 x5_1).f1) _ _ ((rd_T35 l0 x5_1).f2) ((rd_T35 l0 x5_1).f3) _ _ ((rd_T35 l0 x5_1).f4) ((rd_T35 l1 x5_1).f0) _ _ ((rd_T35 l1 x5_1).f1) _ _ ((rd_T35 l1 x5_1).f2) ((rd_T35 l1 x5_1).f3) _ _ ((rd_T35 l1 x5_1).f4) true _ ?side1 ?side2 ?side3 ?side4 ?side5 ?side6 ?side7 ?side8 ?side9 ?side10 ?side11 ?side12 A7.out).mono ?_
        (case side1 => repeat (first | exact (Kd.C_below HR339_1.out HB.out) | (with_reducible refine Kd.C_alloc ?_ _) | (with_reducible refine Kd.C_drewN ?_ _) | (with_reducible refine Kd.C_drew ?_)))
        (case side2 => exact HC339_1.out)
        (case side3 => repeat (first | exact (Kd.C_below HR339_2.out HB.out) | (with_reducible refine Kd.C_alloc ?_ _) | (with_reducible refine Kd.C_drewN ?_ _) | (with_reducible refine Kd.C_drew ?_)))
        (case side4 => exact HC339_2.out)
        (case side5 => repeat (first | exact (Kd.C_below HR339_4.out HB.out) | (with_reducible refine Kd.C_alloc ?_ _) | (with_reducible refine Kd.C_drewN ?_ _) | (with_reducible refine Kd.C_drew ?_)))
        (case side6 => exact HC339_4.out)
        (case side7 => repeat (first | exact (Kd.C_below HR340_1.out HB.out) | (with_reducible refine Kd.C_alloc ?_ _) | (with_reducible refine Kd.C_drewN ?_ _) | (with_reducible refine Kd.C_drew ?_)))
        (case side8 => exact HC340_1.out)
        (case side9 => repeat (first | exact (Kd.C_below HR340_2.out HB.out) | (with_reducible refine Kd.C_alloc ?_ _) | (with_reducible refine Kd.C_drewN ?_ _) | (with_reducible refine Kd.C_drew ?_)))
        (case side10 => exact HC340_2.out)
        (case side11 => repeat (first | exact (Kd.C_below HR340_4.out HB.out) | (with_reducible refine Kd.C_alloc ?_ _) | (with_reducible refine Kd.C_drewN ?_ _) | (with_reducible refine Kd.C_drew ?_)))
        (case side12 => exact HC340_4.out)
        rintro e w10 ⟨rfl, hb⟩
        refine ⟨_, rfl, ?_⟩
        have n0_ := Ak (below_step Z1 hb)
        clear HB
        have HB := n0_
        clear n0_
        (try clear hb)
        (try clear hb2)
        (try clear hk)
        (try clear hi)
        refine hK.out _ _ ⟨((HB.out.cell (World.block_lt_of_cell? w _ hw339_0)).trans hw339_0), ((HB.out.cell (World.block_lt_of_cell? w _ hw339_1)).trans hw339_1), ((HB.out.cell (World.block_lt_of_cell? w _ hw339_2)).trans hw339_2), ((HB.out.cell (World.block_lt_of_cell? w _ hw339_3)).trans hw339_3), ((HB.out.cell (World.block_lt_of_cell? w _ hw339_4)).trans hw339_4), ((HB.out.cell (World.block_lt_of_cell? w _ hw340_0)).trans hw340_0), ((HB.out.cell (World.block_lt_of_cell? w _ hw340_1)).trans hw340_1), ((HB.out.cell (World.block_lt_of_cell? w _ hw340_2)).trans hw340_2), ((HB.out.cell (World.block_lt_of_cell? w _ hw340_3)).trans hw340_3), ((HB.out.cell (World.block_lt_of_cell? w _ hw340_4)).trans hw340_4)⟩ (fun hHeld => ?_)
        clear hK K
        refine norm_ (a' := ?_) ?_ ?_
        rotate_left
        ·show Act.put _ (some 25) _ = _
         simp only [Act.put, List.setIfInBounds_toArray, List.set_cons_zero, List.set_cons_succ, i64_w, i32_w]
         rfl
        refine pure_ (i := 9) (N := some 26) (v := ?_) (a' := ?_) #[true, true, true, true, true, true, true, true, true, true] rfl rfl (any_of HT_.out Z76) (fun _ _ _ h => h) (Or.inl ⟨by rfl, ?_⟩) ?_ ?_
        rotate_left
        ·intro w'
         go_simp
         with_reducible rfl
        rotate_left
        ·simp only [Act.put, List.setIfInBounds_toArray, List.set_cons_zero, List.set_cons_succ, i64_w, i32_w]
         rfl
        refine done_ (done_of HT_.out Z76) ?_
        try go_wp2
        go_roundg k1
        case measure => have := HK1.out; omega
        case rel => exact ⟨(wrap64 (x5_1 + 1)), Z11, H', ⟨by have := HK1.out; omega⟩, ⟨Z1⟩⟩
       ·replace c8 := Bool.eq_false_iff.mpr c8
        subst c8
        have H1 : (some false) = some r := by rw [if_neg (show ¬ (false = true) by decide)] at H; exact H
        clear H
        have H := H1
        clear H1
        obtain rfl := Option.some.inj H
        try go_wp2
        have n0_ := Ak (below_drew1 HB.out)
        clear HB
        have HB := n0_
        clear n0_
        have p339 : 0 ≤ (x5_1 : Int) := of_decide_eq_true Z20
        have q339 : x5_1 < (l0.length : Int) := of_decide_eq_true Z20
        obtain ⟨ad339, A339_1, c339_1, A339_2, c339_2, A339_4, c339_4, e339, hx339_0, hx339_1, hx339_2, hx339_3, hx339_4, hl339_1, hi339_1, hl339_2, hi339_2, hl339_4, hi339_4⟩ := at_T35 HR0.out x5_1 p339 q339
        have hw339_4 := hx339_4
        have hw339_3 := hx339_3
        have hw339_2 := hx339_2
        have hw339_1 := hx339_1
        have hw339_0 := hx339_0
        cases e339
        replace hx339_0 := (HB.out.cell (World.block_lt_of_cell? w _ hx339_0)).trans hx339_0
        replace hx339_1 := (HB.out.cell (World.block_lt_of_cell? w _ hx339_1)).trans hx339_1
        replace hx339_2 := (HB.out.cell (World.block_lt_of_cell? w _ hx339_2)).trans hx339_2
        replace hx339_3 := (HB.out.cell (World.block_lt_of_cell? w _ hx339_3)).trans hx339_3
        replace hx339_4 := (HB.out.cell (World.block_lt_of_cell? w _ hx339_4)).trans hx339_4
        have HR339_1 := Ak hi339_1
        have HC339_1 := Ak hl339_1
        clear hi339_1 hl339_1
        have HR339_2 := Ak hi339_2
        have HC339_2 := Ak hl339_2
        clear hi339_2 hl339_2
        have HR339_4 := Ak hi339_4
        have HC339_4 := Ak hl339_4
        clear hi339_4 hl339_4
        replace p339 := eq_true p339
        replace q339 := eq_true q339
        have p340 : 0 ≤ (x5_1 : Int) := of_decide_eq_true Z20
        have q340 : x5_1 < (l1.length : Int) := of_decide_eq_true Z20
        obtain ⟨ad340, A340_1, c340_1, A340_2, c340_2, A340_4, c340_4, e340, hx340_0, hx340_1, hx340_2, hx340_3, hx340_4, hl340_1, hi340_1, hl340_2, hi340_2, hl340_4, hi340_4⟩ := at_T35 HR1.out x5_1 p340 q340
        have hw340_4 := hx340_4
        have hw340_3 := hx340_3
        have hw340_2 := hx340_2
        have hw340_1 := hx340_1
        have hw340_0 := hx340_0
        cases e340
        replace hx340_0 := (HB.out.cell (World.block_lt_of_cell? w _ hx340_0)).trans hx340_0
        replace hx340_1 := (HB.out.cell (World.block_lt_of_cell? w _ hx340_1)).trans hx340_1
        replace hx340_2 := (HB.out.cell (World.block_lt_of_cell? w _ hx340_2)).trans hx340_2
        replace hx340_3 := (HB.out.cell (World.block_lt_of_cell? w _ hx340_3)).trans hx340_3
        replace hx340_4 := (HB.out.cell (World.block_lt_of_cell? w _ hx340_4)).trans hx340_4
        have HR340_1 := Ak hi340_1
        have HC340_1 := Ak hl340_1
        clear hi340_1 hl340_1
        have HR340_2 := Ak hi340_2
        have HC340_2 := Ak hl340_2
        clear hi340_2 hl340_2
        have HR340_4 := Ak hi340_4
        have HC340_4 := Ak hl340_4
        clear hi340_4 hl340_4
        replace p340 := eq_true p340
        replace q340 := eq_true q340
        refine start_ (n := 10) (S := fun w' => w'.cell? (ad339.add ((x5_1).toNat * 5)) = some (.int .i64 ((rd_T35 l0 x5_1).f0)) ∧ w'.cell? ⟨(ad339.add ((x5_1).toNat * 5)).block, (ad339.add ((x5_1).toNat * 5)).off + 1, none⟩ = some (.slice A339_1 ((rd_T35 l0 x5_1).f1).length c339_1) ∧ w'.cell? ⟨(ad339.add ((x5_1).toNat * 5)).block, (ad339.add ((x5_1).toNat * 5)).off + 2, none⟩ = some (.slice A339_2 ((rd_T35 l0 x5_1).f2).length c339_2) ∧ w'.cell? ⟨(ad339.add ((x5_1).toNat * 5)).block, (ad339.add ((x5_1).toNat * 5)).off + 3, none⟩ = some (.string ((rd_T35 l0 x5_1).f3)) ∧ w'.cell? ⟨(ad339.add ((x5_1).toNat * 5)).block, (ad339.add ((x5_1).toNat * 5)).off + 4, none⟩ = some (.slice A339_4 ((rd_T35 l0 x5_1).f4).length c339_4) ∧ w'.cell? (ad340.add ((x5_1).toNat * 5)) = some (.int .i64 ((rd_T35 l1 x5_1).f0)) ∧ w'.cell? ⟨(ad340.add ((x5_1).toNat * 5)).block, (ad340.add ((x5_1).toNat * 5)).off + 1, none⟩ = some (.slice A340_1 ((rd_T35 l1 x5_1).f1).length c340_1) ∧ w'.cell? ⟨(ad340.add ((x5_1).toNat * 5)).block, (ad340.add ((x5_1).toNat * 5)).off + 2, none⟩ = some (.slice A340_2 ((rd_T35 l1 x5_1).f2).length c340_2) ∧ w'.cell? ⟨(ad340.add ((x5_1).toNat * 5)).block, (ad340.add ((x5_1).toNat * 5)).off + 3, none⟩ = some (.string ((rd_T35 l1 x5_1).f3)) ∧ w'.cell? ⟨(ad340.add ((x5_1).toNat * 5)).block, (ad340.add ((x5_1).toNat * 5)).off + 4, none⟩ = some (.slice A340_4 ((rd_T35 l1 x5_1).f4).length c340_4)) (ds := []) #[false, false, false, false, false, false, false, false, false, false] Z76 rfl rfl ⟨((HB.out.cell (World.block_lt_of_cell? w _ hw339_0)).trans hw339_0), ((HB.out.cell (World.block_lt_of_cell? w _ hw339_1)).trans hw339_1), ((HB.out.cell (World.block_lt_of_cell? w _ hw339_2)).trans hw339_2), ((HB.out.cell (World.block_lt_of_cell? w _ hw339_3)).trans hw339_3), ((HB.out.cell (World.block_lt_of_cell? w _ hw339_4)).trans hw339_4), ((HB.out.cell (World.block_lt_of_cell? w _ hw340_0)).trans hw340_0), ((HB.out.cell (World.block_lt_of_cell? w _ hw340_1)).trans hw340_1), ((HB.out.cell (World.block_lt_of_cell? w _ hw340_2)).trans hw340_2), ((HB.out.cell (World.block_lt_of_cell? w _ hw340_3)).trans hw340_3), ((HB.out.cell (World.block_lt_of_cell? w _ hw340_4)).trans hw340_4)⟩ (fun hHeld => ?_); refine with_tabW r9_SameCommits.tab6 r9_SameCommits.bits6 (fun HT_ HW_ => ?_)
        generalize wr.drew = w11 at HB HR339_1 HR339_2 HR339_4 HR340_1 HR340_2 HR340_4 hx339_0 hx339_1 hx339_2 hx339_3 hx339_4 hx340_0 hx340_1 hx340_2 hx340_3 hx340_4 hHeld ⊢
        refine pure_ (i := 0) (N := some 17) (v := ?_) (a' := ?_) #[true, false, false, false, false, false, false, false, false, false] rfl rfl (any_of HT_.out Z76) (fun _ _ _ h => h) (Or.inl ⟨by rfl, ?_⟩) ?_ ?_
        rotate_left
        ·intro w'
         go_simp
         with_reducible rfl
        rotate_left
        ·simp only [Act.put, List.setIfInBounds_toArray, List.set_cons_zero, List.set_cons_succ, i64_w, i32_w]
         rfl
        refine pure_ (i := 1) (N := some 18) (v := ?_) (a' := ?_) #[true, true, false, false, false, false, false, false, false, false] rfl rfl (any_of HT_.out Z76) (fun _ _ _ h => h) (Or.inl ⟨by rfl, ?_⟩) ?_ ?_
        rotate_left
        ·intro w'
         go_simp
         with_reducible rfl
        rotate_left
        ·simp only [Act.put, List.setIfInBounds_toArray, List.set_cons_zero, List.set_cons_succ, i64_w, i32_w]
         rfl
        refine pure_ (i := 2) (N := some 19) (v := ?_) (a' := ?_) #[true, true, true, false, false, false, false, false, false, false] rfl rfl (any_of HT_.out Z76) (fun _ _ _ h => h) (Or.inl ⟨by rfl, ?_⟩) ?_ ?_
        rotate_left
        ·intro w'
         go_simp
         with_reducible rfl
        rotate_left
        ·simp only [Act.put, List.setIfInBounds_toArray, List.set_cons_zero, List.set_cons_succ, i64_w, i32_w]
         rfl
        refine pure_ (i := 4) (N := some 21) (v := ?_) (a' := ?_) #[true, true, true, false, true, false, false, false, false, false] rfl rfl (any_of HT_.out Z76) (fun _ _ _ h => h) (Or.inl ⟨by rfl, ?_⟩) ?_ ?_
        rotate_left
        ·intro w'
         go_simp
         with_reducible rfl
        rotate_left
        ·simp only [Act.put, List.setIfInBounds_toArray, List.set_cons_zero, List.set_cons_succ, i64_w, i32_w]
         rfl
        refine pure_ (i := 5) (N := some 22) (v := ?_) (a' := ?_) #[true, true, true, false, true, true, false, false, false, false] rfl rfl (any_of HT_.out Z76) (fun _ _ _ h => h) (Or.inl ⟨by rfl, ?_⟩) ?_ ?_
        rotate_left
        ·intro w'
         go_simp
         with_reducible rfl
        rotate_left
        ·simp only [Act.put, List.setIfInBounds_toArray, List.set_cons_zero, List.set_cons_succ, i64_w, i32_w]
         rfl
        refine pure_ (i := 6) (N := some 23) (v := ?_) (a' := ?_) #[true, true, true, false, true, true, true, false, false, false] rfl rfl (any_of HT_.out Z76) (fun _ _ _ h => h) (Or.inl ⟨by rfl, ?_⟩) ?_ ?_
        rotate_left
        ·intro w'
         go_simp
         with_reducible rfl
        rotate_left
        ·simp only [Act.put, List.setIfInBounds_toArray, List.set_cons_zero, List.set_cons_succ, i64_w, i32_w]
         rfl
        refine take_ (i := 3) (N := some 20) (v := ?_) (a' := ?_) #[true, true, true, true, true, true, true, false, false, false] rfl rfl (take_ofW HT_.out HW_.out Z76) (fun _ _ _ h => h) (Or.inl ⟨by rfl, ?_⟩) hHeld ?_ ?_
        rotate_left
        ·rintro w' ⟨s0, s1, s2, s3, s4, s5, s6, s7, s8, s9⟩
         go_simp
         with_reducible rfl
        rotate_left
        ·simp only [Act.put, List.setIfInBounds_toArray, List.set_cons_zero, List.set_cons_succ, i64_w, i32_w]
         rfl
        refine take_ (i := 7) (N := some 24) (v := ?_) (a' := ?_) #[true, true, true, true, true, true, true, true, false, false] rfl rfl (take_ofW HT_.out HW_.out Z76) (fun _ _ _ h => h) (Or.inl ⟨by rfl, ?_⟩) hHeld ?_ ?_
        rotate_left
        ·rintro w' ⟨s0, s1, s2, s3, s4, s5, s6, s7, s8, s9⟩
         go_simp
         with_reducible rfl
        rotate_left
        ·simp only [Act.put, List.setIfInBounds_toArray, List.set_cons_zero, List.set_cons_succ, i64_w, i32_w]
         rfl
        refine one_ (i := 8) (N := some 25) #[true, true, true, true, true, true, true, true, true, false] rfl rfl (one_of HT_.out Z76) (by decide) (fun K hK => ?_)
        refine goes_ Tryz.func39 Z76 rfl #[.agg #[.int .i64 ((rd_T35 l0 x5_1).f0), .slice A339_1 ((rd_T35 l0 x5_1).f1).length c339_1, .slice A339_2 ((rd_T35 l0 x5_1).f2).length c339_2, .string ((rd_T35 l0 x5_1).f3), .slice A339_4 ((rd_T35 l0 x5_1).f4).length c339_4], .agg #[.int .i64 ((rd_T35 l1 x5_1).f0), .slice A340_1 ((rd_T35 l1 x5_1).f1).length c340_1, .slice A340_2 ((rd_T35 l1 x5_1).f2).length c340_2, .string ((rd_T35 l1 x5_1).f3), .slice A340_4 ((rd_T35 l1 x5_1).f4).length c340_4]] (by rfl) rfl rfl Z4 ?_
        with_reducible refine (r9_SameCommit.calls k1 ((rd_T35 l0 x5_1).f0) _ _ ((rd_T35 l0 x5_1).f1) _ _ ((rd_T35 l0 x5_1).f2) ((rd_T35 l0 x5_1).f3) _ _ ((rd_T35 l0 x5_1).f4) ((rd_T35 l1 x5_1).f0) _ _ ((rd_T35 l1 x5_1).f1) _ _ ((rd_T35 l1 x5_1).f2) ((rd_T35 l1 x5_1).f3) _ _ ((rd_T35 l1 x5_1).f4) false _ ?side1 ?side2 ?side3 ?side4 ?side5 ?side6 ?side7 ?side8 ?side9 ?side10 ?side11 ?side12 A7.out).mono ?_
        (case side1 => repeat (first | exact (Kd.C_below HR339_1.out HB.out) | (with_reducible refine Kd.C_alloc ?_ _) | (with_reducible refine Kd.C_drewN ?_ _) | (with_reducible refine Kd.C_drew ?_)))
        (case side2 => exact HC339_1.out)
        (case side3 => repeat (first | exact (Kd.C_below HR339_2.out HB.out) | (with_reducible refine Kd.C_alloc ?_ _) | (with_reducible refine Kd.C_drewN ?_ _) | (with_reducible refine Kd.C_drew ?_)))
        (case side4 => exact HC339_2.out)
        (case side5 => repeat (first | exact (Kd.C_below HR339_4.out HB.out) | (with_reducible refine Kd.C_alloc ?_ _) | (with_reducible refine Kd.C_drewN ?_ _) | (with_reducible refine Kd.C_drew ?_)))
        (case side6 => exact HC339_4.out)
        (case side7 => repeat (first | exact (Kd.C_below HR340_1.out HB.out) | (with_reducible refine Kd.C_alloc ?_ _) | (with_reducible refine Kd.C_drewN ?_ _) | (with_reducible refine Kd.C_drew ?_)))
        (case side8 => exact HC340_1.out)
        (case side9 => repeat (first | exact (Kd.C_below HR340_2.out HB.out) | (with_reducible refine Kd.C_alloc ?_ _) | (with_reducible refine Kd.C_drewN ?_ _) | (with_reducible refine Kd.C_drew ?_)))
        (case side10 => exact HC340_2.out)
        (case side11 => repeat (first | exact (Kd.C_below HR340_4.out HB.out) | (with_reducible refine Kd.C_alloc ?_ _) | (with_reducible refine Kd.C_drewN ?_ _) | (with_reducible refine Kd.C_drew ?_)))
        (case side12 => exact HC340_4.out)
        rintro e w12 ⟨rfl, hb⟩
        refine ⟨_, rfl, ?_⟩
        have n0_ := Ak (below_step Z1 hb)
        clear HB
        have HB := n0_
        clear n0_
        (try clear hb)
        (try clear hb2)
        (try clear hk)
        (try clear hi)
        refine hK.out _ _ ⟨((HB.out.cell (World.block_lt_of_cell? w _ hw339_0)).trans hw339_0), ((HB.out.cell (World.block_lt_of_cell? w _ hw339_1)).trans hw339_1), ((HB.out.cell (World.block_lt_of_cell? w _ hw339_2)).trans hw339_2), ((HB.out.cell (World.block_lt_of_cell? w _ hw339_3)).trans hw339_3), ((HB.out.cell (World.block_lt_of_cell? w _ hw339_4)).trans hw339_4), ((HB.out.cell (World.block_lt_of_cell? w _ hw340_0)).trans hw340_0), ((HB.out.cell (World.block_lt_of_cell? w _ hw340_1)).trans hw340_1), ((HB.out.cell (World.block_lt_of_cell? w _ hw340_2)).trans hw340_2), ((HB.out.cell (World.block_lt_of_cell? w _ hw340_3)).trans hw340_3), ((HB.out.cell (World.block_lt_of_cell? w _ hw340_4)).trans hw340_4)⟩ (fun hHeld => ?_)
        clear hK K
        refine norm_ (a' := ?_) ?_ ?_
        rotate_left
        ·show Act.put _ (some 25) _ = _
         simp only [Act.put, List.setIfInBounds_toArray, List.set_cons_zero, List.set_cons_succ, i64_w, i32_w]
         rfl
        refine pure_ (i := 9) (N := some 26) (v := ?_) (a' := ?_) #[true, true, true, true, true, true, true, true, true, true] rfl rfl (any_of HT_.out Z76) (fun _ _ _ h => h) (Or.inl ⟨by rfl, ?_⟩) ?_ ?_
        rotate_left
        ·intro w'
         go_simp
         with_reducible rfl
        rotate_left
        ·simp only [Act.put, List.setIfInBounds_toArray, List.set_cons_zero, List.set_cons_succ, i64_w, i32_w]
         rfl
        refine done_ (done_of HT_.out Z76) ?_
        try go_wp2
        go_ret
        exact ⟨Z6, Z1⟩
      ·rw [if_neg c6] at H
       exact absurd H (by simp)
     ·rw [if_neg c5] at H
      exact absurd H (by simp)
    ·rw [if_neg c4] at H
     have c4b0 : decide (x5_1 < (l0.length : Int)) = false := decide_eq_false c4
     clear c4
     obtain rfl := Option.some.inj H
     go_wp2
     go_ret
     exact ⟨Z6, Z1⟩
 ·rw [if_neg c3] at H
  have c3b0 : ((l0.length : Int) == (l1.length : Int)) = false := beq_eq_false_iff_ne.mpr c3
  have c3b1 : ((l0.length : Int) != (l1.length : Int)) = true := bne_iff_ne.mpr c3
  have c3b2 : (l0.length == l1.length) = false := by first | simpa using c3 | (simp at c3 ⊢; omega)
  obtain rfl := Option.some.inj H
  go_enter Tryz.func17, Tryz.ntmps17
  go_wp2
  go_ret
  exact ⟨Z6, Z1⟩
def r43_Same.f (k : Nat) (l0_0 : List Int) (l0_1 : List (S35)) (l1_0 : List Int) (l1_1 : List (S35)) : Option (Bool) := (r9_SameInts.f k l0_0 l1_0).bind fun t344 => (if t344 = true then ((r9_SameCommits.f k l0_1 l1_1).bind fun t345 => (some t345)) else (some false))
set_option maxHeartbeats 8000000 in
set_option maxRecDepth 100000 in
theorem r43_Same.calls (k : Nat) (A0_0 : Option Addr) (c0_0 : Nat) (l0_0 : List Int) (A0_1 : Option Addr) (c0_1 : Nat) (l0_1 : List (S35)) (A1_0 : Option Addr) (c1_0 : Nat) (l1_0 : List Int) (A1_1 : Option Addr) (c1_1 : Nat) (l1_1 : List (S35)) (r : Bool) (w : World) (hr0_0 : Kd.C (Kd.int .i64) w A0_0 l0_0.length l0_0) (hc0_0 : l0_0.length ≤ c0_0) (hr0_1 : Kd.C k35 w A0_1 l0_1.length l0_1) (hc0_1 : l0_1.length ≤ c0_1) (hr1_0 : Kd.C (Kd.int .i64) w A1_0 l1_0.length l1_0) (hc1_0 : l1_0.length ≤ c1_0) (hr1_1 : Kd.C k35 w A1_1 l1_1.length l1_1) (hc1_1 : l1_1.length ≤ c1_1) (h : r43_Same.f k l0_0 l0_1 l1_0 l1_1 = some r) :
  Calls Tryz.prog 7 #[.agg #[.slice A0_0 l0_0.length c0_0, .slice A0_1 l0_1.length c0_1], .agg #[.slice A1_0 l1_0.length c1_0, .slice A1_1 l1_1.length c1_1]] w fun e w' => e = .returned (.bool r) ∧ Below w.heap.size w w' := by
 have hu27 := Tryz.underlying27
 have HR0_0 := Ak hr0_0
 have HC0_0 := Ak hc0_0
 clear hr0_0 hc0_0
 have HR0_1 := Ak hr0_1
 have HC0_1 := Ak hc0_1
 clear hr0_1 hc0_1
 have HR1_0 := Ak hr1_0
 have HC1_0 := Ak hc1_0
 clear hr1_0 hc1_0
 have HR1_1 := Ak hr1_1
 have HC1_1 := Ak hc1_1
 clear hr1_1 hc1_1
 have HB := Ak (Below.refl w.heap.size w)
 have H : ((r9_SameInts.f k l0_0 l1_0).bind fun t344 => (if t344 = true then ((r9_SameCommits.f k l0_1 l1_1).bind fun t345 => (some t345)) else (some false))) = some r := h
 clear h
 replace H := Option.bind_eq_some_iff.mp H
 obtain ⟨t344, A30, H⟩ := H
 replace H : (if t344 = true then ((r9_SameCommits.f k l0_1 l1_1).bind fun t345 => (some t345)) else (some false)) = some r := H
 have A3 := Ak A30
 clear A30
 by_cases c4 : t344 = true
 ·subst c4
  have H1 : ((r9_SameCommits.f k l0_1 l1_1).bind fun t345 => (some t345)) = some r := by rw [if_pos rfl] at H; exact H
  clear H
  have H := H1
  clear H1
  replace H := Option.bind_eq_some_iff.mp H
  obtain ⟨t345, A50, H⟩ := H
  replace H : (some t345) = some r := H
  have A5 := Ak A50
  clear A50
  obtain rfl := Option.some.inj H
  go_enter Tryz.func7, Tryz.ntmps7
  go_wp2_with (first | ((with_reducible refine gate_dst (N := 2) rfl ?_); refine box_event ?hg (N := 2) ?hd (cs := #[.slice A0_0 l0_0.length c0_0, .slice A0_1 l0_1.length c0_1]) (t := 27) ?hr ?_; (case hd => rfl); (case hg => rfl); (case hr => exact Z16); intro gb342 hg w6 hbox hb; have n0_ := Ak (below_step Z1 hb); have n1_ := Ak (hbox); have n2_ := Ak ((Z36 : w.heap.size ≤ gb342)); have n3_ := Ak ((Z36 : w.heap.size ≤ gb342)); clear HB; have HB := n0_; have BK342 := n1_; have GW342 := n2_; have GE342 := n3_; clear n0_ n1_ n2_ n3_; clear hb hbox hg) | ((with_reducible refine gate_dst (N := 3) rfl ?_); refine box_event ?hg (N := 3) ?hd (cs := #[.slice A1_0 l1_0.length c1_0, .slice A1_1 l1_1.length c1_1]) (t := 27) ?hr ?_; (case hd => rfl); (case hg => rfl); (case hr => exact Z16); intro gb343 hg w7 hbox hb; have n0_ := Ak (blk_below (g := gb342) (o := .cells #[.slice A0_0 l0_0.length c0_0, .slice A0_1 l0_1.length c0_1] 27 (0, 0)) (by refine bz ?_; exact BK342.out) hb); have n1_ := Ak (below_step Z50 hb); have n2_ := Ak (hbox); have n3_ := Ak ((by rw [hg]; exact (below_size Z50) : w.heap.size ≤ gb343)); have n4_ := Ak ((by rw [hg]; exact (below_size Z50) : w.heap.size ≤ gb343)); have n5_ := Ak ((by rw [hg]; exact Nat.ne_of_lt (blk_lt (g := gb342) (o := .cells #[.slice A0_0 l0_0.length c0_0, .slice A0_1 l0_1.length c0_1] 27 (0, 0)) (by refine bz ?_; exact BK342.out)) : gb342 ≠ gb343)); have n6_ := Ak ((by rw [hg]; exact Nat.ne_of_gt (blk_lt (g := gb342) (o := .cells #[.slice A0_0 l0_0.length c0_0, .slice A0_1 l0_1.length c0_1] 27 (0, 0)) (by refine bz ?_; exact BK342.out)) : gb343 ≠ gb342)); clear BK342; clear HB; have BK342 := n0_; have HB := n1_; have BK343 := n2_; have GW343 := n3_; have GE343 := n4_; have NB342_343 := n5_; have NB343_342 := n6_; clear n0_ n1_ n2_ n3_ n4_ n5_ n6_; clear hb hbox hg; have hnb8 := NB342_343.out; have hnc8 := NB343_342.out; have hcz9_0 : w7.cell? ⟨gb342, 0, none⟩ = some (.slice A0_0 l0_0.length c0_0) := (blk_cell BK342.out 0).trans rfl; have hcz9_1 : w7.cell? ⟨gb342, 1, none⟩ = some (.slice A0_1 l0_1.length c0_1) := (blk_cell BK342.out 1).trans rfl; have hfz9_0 := bfz BK342.out 0; have hfz9_1 := bfz BK342.out 1; have hcz10_0 : w7.cell? ⟨gb343, 0, none⟩ = some (.slice A1_0 l1_0.length c1_0) := (blk_cell BK343.out 0).trans rfl; have hcz10_1 : w7.cell? ⟨gb343, 1, none⟩ = some (.slice A1_1 l1_1.length c1_1) := (blk_cell BK343.out 1).trans rfl; have hfz10_0 := bfz BK343.out 0; have hfz10_1 := bfz BK343.out 1) | ((with_reducible refine gate_callee (f := 16) rfl ?_); refine goesL_ (some 9) rfl rfl Tryz.func16 Z76 rfl #[.slice A0_0 l0_0.length c0_0, .slice A1_0 l1_0.length c1_0] rfl Z4 ?_; (with_reducible refine (r9_SameInts.calls k _ _ l0_0 _ _ l1_0 true _ ?side1 ?side2 ?side3 ?side4 A3.out).mono ?_); (case side1 => repeat (first | exact (Kd.C_below HR0_0.out HB.out) | (with_reducible refine Kd.C_alloc ?_ _) | (with_reducible refine Kd.C_drewN ?_ _) | (with_reducible refine Kd.C_drew ?_))); (case side2 => exact HC0_0.out); (case side3 => repeat (first | exact (Kd.C_below HR1_0.out HB.out) | (with_reducible refine Kd.C_alloc ?_ _) | (with_reducible refine Kd.C_drewN ?_ _) | (with_reducible refine Kd.C_drew ?_))); (case side4 => exact HC1_0.out); rintro e w' ⟨rfl, ⟨nd, rfl⟩⟩; refine ⟨_, rfl, ?_⟩) | (go_at_call 17; (with_reducible refine (r9_SameCommits.calls k _ _ l0_1 _ _ l1_1 t345 _ ?side1 ?side2 ?side3 ?side4 A5.out).mono ?_); (case side1 => repeat (first | exact (Kd.C_below HR0_1.out Z51) | (with_reducible refine Kd.C_alloc ?_ _) | (with_reducible refine Kd.C_drewN ?_ _) | (with_reducible refine Kd.C_drew ?_))); (case side2 => exact HC0_1.out); (case side3 => repeat (first | exact (Kd.C_below HR1_1.out Z51) | (with_reducible refine Kd.C_alloc ?_ _) | (with_reducible refine Kd.C_drewN ?_ _) | (with_reducible refine Kd.C_drew ?_))); (case side4 => exact HC1_1.out); rintro e w11 ⟨rfl, hb⟩; have n0_ := Ak (blk_below (g := gb342) (o := .cells #[.slice A0_0 l0_0.length c0_0, .slice A0_1 l0_1.length c0_1] 27 (0, 0)) (by refine bz ?_; exact BK342.out) hb); have n1_ := Ak (blk_below (g := gb343) (o := .cells #[.slice A1_0 l1_0.length c1_0, .slice A1_1 l1_1.length c1_1] 27 (0, 0)) (by refine bz ?_; exact BK343.out) hb); have n2_ := Ak (below_step Z51 hb); clear BK342; clear BK343; clear HB; have BK342 := n0_; have BK343 := n1_; have HB := n2_; clear n0_ n1_ n2_; (try clear hb); (try clear hb2); (try clear hk); (try clear hi)))
  go_ret
  exact ⟨Z6, Z51⟩
 ·replace c4 := Bool.eq_false_iff.mpr c4
  subst c4
  have H1 : (some false) = some r := by rw [if_neg (show ¬ (false = true) by decide)] at H; exact H
  clear H
  have H := H1
  clear H1
  obtain rfl := Option.some.inj H
  go_enter Tryz.func7, Tryz.ntmps7
  go_wp2_with (first | ((with_reducible refine gate_dst (N := 2) rfl ?_); refine box_event ?hg (N := 2) ?hd (cs := #[.slice A0_0 l0_0.length c0_0, .slice A0_1 l0_1.length c0_1]) (t := 27) ?hr ?_; (case hd => rfl); (case hg => rfl); (case hr => exact Z16); intro gb342 hg w12 hbox hb; have n0_ := Ak (below_step Z1 hb); have n1_ := Ak (hbox); have n2_ := Ak ((Z36 : w.heap.size ≤ gb342)); have n3_ := Ak ((Z36 : w.heap.size ≤ gb342)); clear HB; have HB := n0_; have BK342 := n1_; have GW342 := n2_; have GE342 := n3_; clear n0_ n1_ n2_ n3_; clear hb hbox hg) | ((with_reducible refine gate_dst (N := 3) rfl ?_); refine box_event ?hg (N := 3) ?hd (cs := #[.slice A1_0 l1_0.length c1_0, .slice A1_1 l1_1.length c1_1]) (t := 27) ?hr ?_; (case hd => rfl); (case hg => rfl); (case hr => exact Z16); intro gb343 hg w13 hbox hb; have n0_ := Ak (blk_below (g := gb342) (o := .cells #[.slice A0_0 l0_0.length c0_0, .slice A0_1 l0_1.length c0_1] 27 (0, 0)) (by refine bz ?_; exact BK342.out) hb); have n1_ := Ak (below_step Z50 hb); have n2_ := Ak (hbox); have n3_ := Ak ((by rw [hg]; exact (below_size Z50) : w.heap.size ≤ gb343)); have n4_ := Ak ((by rw [hg]; exact (below_size Z50) : w.heap.size ≤ gb343)); have n5_ := Ak ((by rw [hg]; exact Nat.ne_of_lt (blk_lt (g := gb342) (o := .cells #[.slice A0_0 l0_0.length c0_0, .slice A0_1 l0_1.length c0_1] 27 (0, 0)) (by refine bz ?_; exact BK342.out)) : gb342 ≠ gb343)); have n6_ := Ak ((by rw [hg]; exact Nat.ne_of_gt (blk_lt (g := gb342) (o := .cells #[.slice A0_0 l0_0.length c0_0, .slice A0_1 l0_1.length c0_1] 27 (0, 0)) (by refine bz ?_; exact BK342.out)) : gb343 ≠ gb342)); clear BK342; clear HB; have BK342 := n0_; have HB := n1_; have BK343 := n2_; have GW343 := n3_; have GE343 := n4_; have NB342_343 := n5_; have NB343_342 := n6_; clear n0_ n1_ n2_ n3_ n4_ n5_ n6_; clear hb hbox hg; have hnb14 := NB342_343.out; have hnc14 := NB343_342.out; have hcz15_0 : w13.cell? ⟨gb342, 0, none⟩ = some (.slice A0_0 l0_0.length c0_0) := (blk_cell BK342.out 0).trans rfl; have hcz15_1 : w13.cell? ⟨gb342, 1, none⟩ = some (.slice A0_1 l0_1.length c0_1) := (blk_cell BK342.out 1).trans rfl; have hfz15_0 := bfz BK342.out 0; have hfz15_1 := bfz BK342.out 1; have hcz16_0 : w13.cell? ⟨gb343, 0, none⟩ = some (.slice A1_0 l1_0.length c1_0) := (blk_cell BK343.out 0).trans rfl; have hcz16_1 : w13.cell? ⟨gb343, 1, none⟩ = some (.slice A1_1 l1_1.length c1_1) := (blk_cell BK343.out 1).trans rfl; have hfz16_0 := bfz BK343.out 0; have hfz16_1 := bfz BK343.out 1) | ((with_reducible refine gate_callee (f := 16) rfl ?_); refine goesL_ (some 9) rfl rfl Tryz.func16 Z76 rfl #[.slice A0_0 l0_0.length c0_0, .slice A1_0 l1_0.length c1_0] rfl Z4 ?_; (with_reducible refine (r9_SameInts.calls k _ _ l0_0 _ _ l1_0 false _ ?side1 ?side2 ?side3 ?side4 A3.out).mono ?_); (case side1 => repeat (first | exact (Kd.C_below HR0_0.out HB.out) | (with_reducible refine Kd.C_alloc ?_ _) | (with_reducible refine Kd.C_drewN ?_ _) | (with_reducible refine Kd.C_drew ?_))); (case side2 => exact HC0_0.out); (case side3 => repeat (first | exact (Kd.C_below HR1_0.out HB.out) | (with_reducible refine Kd.C_alloc ?_ _) | (with_reducible refine Kd.C_drewN ?_ _) | (with_reducible refine Kd.C_drew ?_))); (case side4 => exact HC1_0.out); rintro e w' ⟨rfl, ⟨nd, rfl⟩⟩; refine ⟨_, rfl, ?_⟩))
  go_ret
  exact ⟨Z6, Z51⟩
def l43_BundleParses.f (k : Nat) (l0 : List Int) : Option (Bool) := if (l0.length : Int) > 2000 then ((l43_awake.f).bind fun t346 => (some t346)) else ((bundle_Parse.f k l0).bind fun bt347 => ((r43_Parse.f k l0).bind fun bt355 => (if bt347.2.2 = bt355.2.2 then ((r43_Same.f k bt347.1 bt347.2.1 bt355.1 bt355.2.1).bind fun t363 => (if t363 = true then ((l43_awake.f).bind fun t364 => (some t364)) else (some false))) else (some false))))
set_option maxHeartbeats 8000000 in
set_option maxRecDepth 100000 in
theorem l43_BundleParses.calls (k : Nat) (A0 : Option Addr) (c0 : Nat) (l0 : List Int) (r : Bool) (w : World) (hr0 : Kd.C (Kd.int .u8) w A0 l0.length l0) (hc0 : l0.length ≤ c0) (h : l43_BundleParses.f k l0 = some r) :
  Calls Tryz.prog 3 #[.slice A0 l0.length c0] w fun e w' => e = .returned (.bool r) ∧ Below w.heap.size w w' := by
 have hu27 := Tryz.underlying27
 have HR0 := Ak hr0
 have HC0 := Ak hc0
 clear hr0 hc0
 have HB := Ak (Below.refl w.heap.size w)
 have H : (if (l0.length : Int) > 2000 then ((l43_awake.f).bind fun t346 => (some t346)) else ((bundle_Parse.f k l0).bind fun bt347 => ((r43_Parse.f k l0).bind fun bt355 => (if bt347.2.2 = bt355.2.2 then ((r43_Same.f k bt347.1 bt347.2.1 bt355.1 bt355.2.1).bind fun t363 => (if t363 = true then ((l43_awake.f).bind fun t364 => (some t364)) else (some false))) else (some false))))) = some r := h
 clear h
 by_cases c2 : (l0.length : Int) > 2000
 ·rw [if_pos c2] at H
  have c2b0 : decide (2000 < (l0.length : Int)) = true := decide_eq_true c2
  have c2b1 : decide (2000 < l0.length) = true := decide_eq_true (by omega)
  clear c2
  replace H := Option.bind_eq_some_iff.mp H
  obtain ⟨t346, A30, H⟩ := H
  replace H : (some t346) = some r := H
  have A3 := Ak A30
  clear A30
  obtain rfl := Option.some.inj H
  go_enter Tryz.func3, Tryz.ntmps3
  go_wp2_with (first | ((with_reducible refine gate_callee (f := 4) rfl ?_); refine goesL_ (some 10) rfl rfl Tryz.func4 Z76 rfl #[] rfl Z4 ?_; (with_reducible refine (l43_awake.calls  t346 _ A3.out).mono ?_); rintro e w4 ⟨rfl, hb⟩; refine ⟨_, rfl, ?_⟩; have n0_ := Ak (below_step Z1 hb); clear HB; have HB := n0_; clear n0_; (try clear hb); (try clear hb2); (try clear hk); (try clear hi)))
  go_ret
  exact ⟨Z6, Z1⟩
 ·rw [if_neg c2] at H
  have c2b0 : decide (2000 < (l0.length : Int)) = false := decide_eq_false c2
  have c2b1 : decide (2000 < l0.length) = false := decide_eq_false (by omega)
  clear c2
  replace H := Option.bind_eq_some_iff.mp H
  obtain ⟨⟨t347, t350, t353⟩, A50, H⟩ := H
  replace H : ((r43_Parse.f k l0).bind fun bt355 => (if t353 = bt355.2.2 then ((r43_Same.f k t347 t350 bt355.1 bt355.2.1).bind fun t363 => (if t363 = true then ((l43_awake.f).bind fun t364 => (some t364)) else (some false))) else (some false))) = some r := H
  have A5 := Ak A50
  clear A50
  replace H := Option.bind_eq_some_iff.mp H
  obtain ⟨⟨t355, t358, t361⟩, A60, H⟩ := H
  replace H : (if t353 = t361 then ((r43_Same.f k t347 t350 t355 t358).bind fun t363 => (if t363 = true then ((l43_awake.f).bind fun t364 => (some t364)) else (some false))) else (some false)) = some r := H
  have A6 := Ak A60
  clear A60
  by_cases c7 : t353 = t361
  ·rw [if_pos c7] at H
   have c7b0 : (t353 == t361) = true := beq_iff_eq.mpr c7
   have c7b1 : (t353 != t361) = false := bne_eq_false_iff_eq.mpr c7
   clear c7
   replace H := Option.bind_eq_some_iff.mp H
   obtain ⟨t363, A80, H⟩ := H
   replace H : (if t363 = true then ((l43_awake.f).bind fun t364 => (some t364)) else (some false)) = some r := H
   have A8 := Ak A80
   clear A80
   by_cases c9 : t363 = true
   ·subst c9
    have H1 : ((l43_awake.f).bind fun t364 => (some t364)) = some r := by rw [if_pos rfl] at H; exact H
    clear H
    have H := H1
    clear H1
    replace H := Option.bind_eq_some_iff.mp H
    obtain ⟨t364, A100, H⟩ := H
    replace H : (some t364) = some r := H
    have A10 := Ak A100
    clear A100
    obtain rfl := Option.some.inj H
    go_enter Tryz.func3, Tryz.ntmps3
    go_wp2_with (first | ((with_reducible refine gate_callee (f := 5) rfl ?_); refine goesL_ (some 13) rfl rfl Tryz.func5 Z76 rfl #[.slice A0 l0.length c0] rfl Z4 ?_; (with_reducible refine (bundle_Parse.calls k _ _ l0 t347 t350 t353 _ ?side1 ?side2 A5.out).mono ?_); (case side1 => exact Z17); (case side2 => exact Z77); rintro e w11 ⟨v348, v351, rfl, ho0, ho1, hb⟩; refine ⟨_, rfl, ?_⟩; have n0_ := Ak (Kd.R_lower ho0 (below_size Z1)); have n1_ := Ak (Kd.S_lower ho1 (below_size Z1)); have n2_ := Ak (below_step Z1 hb); clear HB; have HO349 := n0_; have HO352 := n1_; have HB := n2_; clear n0_ n1_ n2_; (try clear hb); (try clear hb2); (try clear hk); (try clear hi); (try clear ho0); (try clear ho1)) | ((with_reducible refine gate_dst (N := 3) rfl ?_); refine box_event ?hg (N := 3) ?hd (cs := #[.slice none 0 0, .slice none 0 0]) (t := 27) ?hr ?_; (case hd => rfl); (case hg => rfl); (case hr => exact Z16); intro gb354 hg w12 hbox hb; have n0_ := Ak (Kd.R_below Z62 hb); have n1_ := Ak (Kd.S_below Z61 hb); have n2_ := Ak (below_step Z1 hb); have n3_ := Ak (hbox); have n4_ := Ak ((Z36 : w.heap.size ≤ gb354)); have n5_ := Ak ((Z36 : w.heap.size ≤ gb354)); clear HO349; clear HO352; clear HB; have HO349 := n0_; have HO352 := n1_; have HB := n2_; have BK354 := n3_; have GW354 := n4_; have GE354 := n5_; clear n0_ n1_ n2_ n3_ n4_ n5_; clear hb hbox hg; obtain ⟨Ao13, co13, eo13⟩ := Kd.R_slice HO349.out; subst eo13; have hcz14_0 : w12.cell? ⟨gb354, 0, none⟩ = some (.slice none 0 0) := (blk_cell BK354.out 0).trans rfl; have hcz14_1 : w12.cell? ⟨gb354, 1, none⟩ = some (.slice none 0 0) := (blk_cell BK354.out 1).trans rfl; have hfz14_0 := bfz BK354.out 0; have hfz14_1 := bfz BK354.out 1; obtain ⟨Ao15, co15, eo15⟩ := Kd.S_slice HO352.out; subst eo15) | ((with_reducible refine gate_callee (f := 6) rfl ?_); refine goesL_ (some 18) rfl rfl Tryz.func6 Z76 rfl #[.slice A0 l0.length c0] rfl Z4 ?_; (with_reducible refine (r43_Parse.calls k _ _ l0 t355 t358 t361 _ ?side1 ?side2 A6.out).mono ?_); (case side1 => exact Kd.C_below HR0.out Z12); (case side2 => exact Z77); rintro e w16 ⟨v356, v359, rfl, ho0, ho1, hb⟩; refine ⟨_, rfl, ?_⟩; have n0_ := Ak (Kd.R_elder' Z54 (Kd.R_base ho0) hb); have n1_ := Ak (Kd.S_mono (Kd.S_told (Kd.S_told (Kd.S_old Z88 hb) (Kd.R_base ho0)) (Kd.S_base ho1)) (fun _ h_ => h_.1)); have n2_ := Ak (Kd.R_lower (Kd.R_new' ho0 (Kd.R_lt Z54)) (below_size Z12)); have n3_ := Ak (Kd.S_lower (Kd.S_new' (Kd.S_new' ho1 (Kd.R_lt Z54)) (Kd.S_lt Z88)) (below_size Z12)); have n4_ := Ak (blk_below (g := gb354) (o := .cells #[.slice Ao13 t347.length co13, .slice Ao15 t350.length co15] 27 (0, 0)) (by refine bz ?_; refine blk_put (cs := #[.slice Ao13 t347.length co13, .slice none 0 0]) ?_ 1 _ rfl; refine bz ?_; refine blk_put (cs := #[.slice none 0 0, .slice none 0 0]) ?_ 0 _ rfl; refine bz ?_; exact BK354.out) hb); have n5_ := Ak (below_step Z12 hb); clear HO349; clear HO352; clear BK354; clear HB; have HO349 := n0_; have HO352 := n1_; have HO357 := n2_; have HO360 := n3_; have BK354 := n4_; have HB := n5_; clear n0_ n1_ n2_ n3_ n4_ n5_; (try clear hb); (try clear hb2); (try clear hk); (try clear hi); (try clear ho0); (try clear ho1)) | ((with_reducible refine gate_dst (N := 5) rfl ?_); refine box_event ?hg (N := 5) ?hd (cs := #[.slice none 0 0, .slice none 0 0]) (t := 27) ?hr ?_; (case hd => rfl); (case hg => rfl); (case hr => exact Z16); intro gb362 hg w17 hbox hb; have n0_ := Ak (Kd.R_below Z62 hb); have n1_ := Ak (Kd.S_below Z61 hb); have n2_ := Ak (Kd.R_below Z97 hb); have n3_ := Ak (Kd.S_below Z96 hb); have n4_ := Ak (blk_below (g := gb354) (o := .cells #[.slice Ao13 t347.length co13, .slice Ao15 t350.length co15] 27 (0, 0)) Z114 hb); have n5_ := Ak (below_step Z12 hb); have n6_ := Ak (hbox); have n7_ := Ak ((by rw [hg]; exact (below_size Z12) : w.heap.size ≤ gb362)); have n8_ := Ak ((by rw [hg]; exact (below_size Z12) : w.heap.size ≤ gb362)); have n9_ := Ak ((by rw [hg]; exact Nat.ne_of_lt (blk_lt (g := gb354) (o := .cells #[.slice Ao13 t347.length co13, .slice Ao15 t350.length co15] 27 (0, 0)) Z114) : gb354 ≠ gb362)); have n10_ := Ak ((by rw [hg]; exact Nat.ne_of_gt (blk_lt (g := gb354) (o := .cells #[.slice Ao13 t347.length co13, .slice Ao15 t350.length co15] 27 (0, 0)) Z114) : gb362 ≠ gb354)); clear HO349; clear HO352; clear HO357; clear HO360; clear BK354; clear HB; have HO349 := n0_; have HO352 := n1_; have HO357 := n2_; have HO360 := n3_; have BK354 := n4_; have HB := n5_; have BK362 := n6_; have GW362 := n7_; have GE362 := n8_; have NB354_362 := n9_; have NB362_354 := n10_; clear n0_ n1_ n2_ n3_ n4_ n5_ n6_ n7_ n8_ n9_ n10_; clear hb hbox hg; obtain ⟨Ao18, co18, eo18⟩ := Kd.R_slice HO357.out; subst eo18; have hnb19 := NB362_354.out; have hnc19 := NB354_362.out; have hcz20_0 : w17.cell? ⟨gb362, 0, none⟩ = some (.slice none 0 0) := (blk_cell BK362.out 0).trans rfl; have hcz20_1 : w17.cell? ⟨gb362, 1, none⟩ = some (.slice none 0 0) := (blk_cell BK362.out 1).trans rfl; have hfz20_0 := bfz BK362.out 0; have hfz20_1 := bfz BK362.out 1; obtain ⟨Ao21, co21, eo21⟩ := Kd.S_slice HO360.out; subst eo21; have hcz22_0 : w17.cell? ⟨gb354, 0, none⟩ = some (.slice Ao13 t347.length co13) := (blk_cell BK354.out 0).trans rfl; have hcz22_1 : w17.cell? ⟨gb354, 1, none⟩ = some (.slice Ao15 t350.length co15) := (blk_cell BK354.out 1).trans rfl; have hfz22_0 := bfz BK354.out 0; have hfz22_1 := bfz BK354.out 1) | (go_at_call 7; (with_reducible refine (r43_Same.calls k _ _ t347 _ _ t350 _ _ t355 _ _ t358 true _ ?side1 ?side2 ?side3 ?side4 ?side5 ?side6 ?side7 ?side8 A8.out).mono ?_); (case side1 => refine (Kd.R_reads' (e := 3) (base := w.heap.size) (ok := fun k_ => (True ∧ some k_ ≠ (.slice Ao18 t355.length co18 : Value).ownBlock)) (n := t347.length) (c := co13) ?_).2.2; exact Z92); (case side2 => exact (Kd.R_reads' HO349.out).2.1); (case side3 => refine (Kd.S_reads' (e := 35) (base := w.heap.size) (ok := fun k_ => ((some k_ ≠ (.slice Ao13 t347.length co13 : Value).ownBlock ∧ some k_ ≠ (.slice Ao18 t355.length co18 : Value).ownBlock) ∧ some k_ ≠ (.slice Ao21 t358.length co21 : Value).ownBlock)) (n := t350.length) (c := co15) ?_).2.2; exact Z85); (case side4 => exact (Kd.S_reads' HO352.out).2.1); (case side5 => refine (Kd.R_reads' (e := 3) (base := w.heap.size) (ok := fun k_ => (True ∧ some k_ ≠ (.slice Ao13 t347.length co13 : Value).ownBlock)) (n := t355.length) (c := co18) ?_).2.2; exact Z90); (case side6 => exact (Kd.R_reads' HO357.out).2.1); (case side7 => refine (Kd.S_reads' (e := 35) (base := w.heap.size) (ok := fun k_ => ((some k_ ≠ (.slice Ao18 t355.length co18 : Value).ownBlock ∧ some k_ ≠ (.slice Ao13 t347.length co13 : Value).ownBlock) ∧ some k_ ≠ (.slice Ao15 t350.length co15 : Value).ownBlock)) (n := t358.length) (c := co21) ?_).2.2; exact Z83); (case side8 => exact (Kd.S_reads' HO360.out).2.1); rintro e w23 ⟨rfl, hb⟩; have n0_ := Ak (Kd.R_below Z92 hb); have n1_ := Ak (Kd.S_below Z85 hb); have n2_ := Ak (Kd.R_below Z90 hb); have n3_ := Ak (Kd.S_below Z83 hb); have n4_ := Ak (blk_below (g := gb354) (o := .cells #[.slice Ao13 t347.length co13, .slice Ao15 t350.length co15] 27 (0, 0)) (by refine bz ?_; refine blk_far ?_ NB354_362.out _; refine bz ?_; refine blk_far ?_ NB354_362.out _; refine bz ?_; exact BK354.out) hb); have n5_ := Ak (blk_below (g := gb362) (o := .cells #[.slice Ao18 t355.length co18, .slice Ao21 t358.length co21] 27 (0, 0)) (by refine bz ?_; refine blk_put (cs := #[.slice Ao18 t355.length co18, .slice none 0 0]) ?_ 1 _ rfl; refine bz ?_; refine blk_put (cs := #[.slice none 0 0, .slice none 0 0]) ?_ 0 _ rfl; refine bz ?_; exact BK362.out) hb); have n6_ := Ak (below_step Z43 hb); clear HO349; clear HO352; clear HO357; clear HO360; clear BK354; clear BK362; clear HB; have HO349 := n0_; have HO352 := n1_; have HO357 := n2_; have HO360 := n3_; have BK354 := n4_; have BK362 := n5_; have HB := n6_; clear n0_ n1_ n2_ n3_ n4_ n5_ n6_; (try clear hb); (try clear hb2); (try clear hk); (try clear hi)) | (go_at_call 4; (with_reducible refine (l43_awake.calls  t364 _ A10.out).mono ?_); rintro e w24 ⟨rfl, hb⟩; have n0_ := Ak (Kd.R_below Z62 hb); have n1_ := Ak (Kd.S_below Z61 hb); have n2_ := Ak (Kd.R_below Z97 hb); have n3_ := Ak (Kd.S_below Z96 hb); have n4_ := Ak (blk_below (g := gb354) (o := .cells #[.slice Ao13 t347.length co13, .slice Ao15 t350.length co15] 27 (0, 0)) Z114 hb); have n5_ := Ak (blk_below (g := gb362) (o := .cells #[.slice Ao18 t355.length co18, .slice Ao21 t358.length co21] 27 (0, 0)) (by refine bz ?_; exact BK362.out) hb); have n6_ := Ak (below_step Z43 hb); clear HO349; clear HO352; clear HO357; clear HO360; clear BK354; clear BK362; clear HB; have HO349 := n0_; have HO352 := n1_; have HO357 := n2_; have HO360 := n3_; have BK354 := n4_; have BK362 := n5_; have HB := n6_; clear n0_ n1_ n2_ n3_ n4_ n5_ n6_; (try clear hb); (try clear hb2); (try clear hk); (try clear hi)))
    go_ret
    exact ⟨Z6, Z43⟩
   ·replace c9 := Bool.eq_false_iff.mpr c9
    subst c9
    have H1 : (some false) = some r := by rw [if_neg (show ¬ (false = true) by decide)] at H; exact H
    clear H
    have H := H1
    clear H1
    obtain rfl := Option.some.inj H
    go_enter Tryz.func3, Tryz.ntmps3
    go_wp2_with (first | ((with_reducible refine gate_callee (f := 5) rfl ?_); refine goesL_ (some 13) rfl rfl Tryz.func5 Z76 rfl #[.slice A0 l0.length c0] rfl Z4 ?_; (with_reducible refine (bundle_Parse.calls k _ _ l0 t347 t350 t353 _ ?side1 ?side2 A5.out).mono ?_); (case side1 => exact Z17); (case side2 => exact Z77); rintro e w25 ⟨v348, v351, rfl, ho0, ho1, hb⟩; refine ⟨_, rfl, ?_⟩; have n0_ := Ak (Kd.R_lower ho0 (below_size Z1)); have n1_ := Ak (Kd.S_lower ho1 (below_size Z1)); have n2_ := Ak (below_step Z1 hb); clear HB; have HO349 := n0_; have HO352 := n1_; have HB := n2_; clear n0_ n1_ n2_; (try clear hb); (try clear hb2); (try clear hk); (try clear hi); (try clear ho0); (try clear ho1)) | ((with_reducible refine gate_dst (N := 3) rfl ?_); refine box_event ?hg (N := 3) ?hd (cs := #[.slice none 0 0, .slice none 0 0]) (t := 27) ?hr ?_; (case hd => rfl); (case hg => rfl); (case hr => exact Z16); intro gb354 hg w26 hbox hb; have n0_ := Ak (Kd.R_below Z62 hb); have n1_ := Ak (Kd.S_below Z61 hb); have n2_ := Ak (below_step Z1 hb); have n3_ := Ak (hbox); have n4_ := Ak ((Z36 : w.heap.size ≤ gb354)); have n5_ := Ak ((Z36 : w.heap.size ≤ gb354)); clear HO349; clear HO352; clear HB; have HO349 := n0_; have HO352 := n1_; have HB := n2_; have BK354 := n3_; have GW354 := n4_; have GE354 := n5_; clear n0_ n1_ n2_ n3_ n4_ n5_; clear hb hbox hg; obtain ⟨Ao27, co27, eo27⟩ := Kd.R_slice HO349.out; subst eo27; have hcz28_0 : w26.cell? ⟨gb354, 0, none⟩ = some (.slice none 0 0) := (blk_cell BK354.out 0).trans rfl; have hcz28_1 : w26.cell? ⟨gb354, 1, none⟩ = some (.slice none 0 0) := (blk_cell BK354.out 1).trans rfl; have hfz28_0 := bfz BK354.out 0; have hfz28_1 := bfz BK354.out 1; obtain ⟨Ao29, co29, eo29⟩ := Kd.S_slice HO352.out; subst eo29) | ((with_reducible refine gate_callee (f := 6) rfl ?_); refine goesL_ (some 18) rfl rfl Tryz.func6 Z76 rfl #[.slice A0 l0.length c0] rfl Z4 ?_; (with_reducible refine (r43_Parse.calls k _ _ l0 t355 t358 t361 _ ?side1 ?side2 A6.out).mono ?_); (case side1 => exact Kd.C_below HR0.out Z12); (case side2 => exact Z77); rintro e w30 ⟨v356, v359, rfl, ho0, ho1, hb⟩; refine ⟨_, rfl, ?_⟩; have n0_ := Ak (Kd.R_elder' Z53 (Kd.R_base ho0) hb); have n1_ := Ak (Kd.S_mono (Kd.S_told (Kd.S_told (Kd.S_old Z87 hb) (Kd.R_base ho0)) (Kd.S_base ho1)) (fun _ h_ => h_.1)); have n2_ := Ak (Kd.R_lower (Kd.R_new' ho0 (Kd.R_lt Z53)) (below_size Z12)); have n3_ := Ak (Kd.S_lower (Kd.S_new' (Kd.S_new' ho1 (Kd.R_lt Z53)) (Kd.S_lt Z87)) (below_size Z12)); have n4_ := Ak (blk_below (g := gb354) (o := .cells #[.slice Ao27 t347.length co27, .slice Ao29 t350.length co29] 27 (0, 0)) (by refine bz ?_; refine blk_put (cs := #[.slice Ao27 t347.length co27, .slice none 0 0]) ?_ 1 _ rfl; refine bz ?_; refine blk_put (cs := #[.slice none 0 0, .slice none 0 0]) ?_ 0 _ rfl; refine bz ?_; exact BK354.out) hb); have n5_ := Ak (below_step Z12 hb); clear HO349; clear HO352; clear BK354; clear HB; have HO349 := n0_; have HO352 := n1_; have HO357 := n2_; have HO360 := n3_; have BK354 := n4_; have HB := n5_; clear n0_ n1_ n2_ n3_ n4_ n5_; (try clear hb); (try clear hb2); (try clear hk); (try clear hi); (try clear ho0); (try clear ho1)) | ((with_reducible refine gate_dst (N := 5) rfl ?_); refine box_event ?hg (N := 5) ?hd (cs := #[.slice none 0 0, .slice none 0 0]) (t := 27) ?hr ?_; (case hd => rfl); (case hg => rfl); (case hr => exact Z16); intro gb362 hg w31 hbox hb; have n0_ := Ak (Kd.R_below Z62 hb); have n1_ := Ak (Kd.S_below Z61 hb); have n2_ := Ak (Kd.R_below Z97 hb); have n3_ := Ak (Kd.S_below Z96 hb); have n4_ := Ak (blk_below (g := gb354) (o := .cells #[.slice Ao27 t347.length co27, .slice Ao29 t350.length co29] 27 (0, 0)) Z114 hb); have n5_ := Ak (below_step Z12 hb); have n6_ := Ak (hbox); have n7_ := Ak ((by rw [hg]; exact (below_size Z12) : w.heap.size ≤ gb362)); have n8_ := Ak ((by rw [hg]; exact (below_size Z12) : w.heap.size ≤ gb362)); have n9_ := Ak ((by rw [hg]; exact Nat.ne_of_lt (blk_lt (g := gb354) (o := .cells #[.slice Ao27 t347.length co27, .slice Ao29 t350.length co29] 27 (0, 0)) Z114) : gb354 ≠ gb362)); have n10_ := Ak ((by rw [hg]; exact Nat.ne_of_gt (blk_lt (g := gb354) (o := .cells #[.slice Ao27 t347.length co27, .slice Ao29 t350.length co29] 27 (0, 0)) Z114) : gb362 ≠ gb354)); clear HO349; clear HO352; clear HO357; clear HO360; clear BK354; clear HB; have HO349 := n0_; have HO352 := n1_; have HO357 := n2_; have HO360 := n3_; have BK354 := n4_; have HB := n5_; have BK362 := n6_; have GW362 := n7_; have GE362 := n8_; have NB354_362 := n9_; have NB362_354 := n10_; clear n0_ n1_ n2_ n3_ n4_ n5_ n6_ n7_ n8_ n9_ n10_; clear hb hbox hg; obtain ⟨Ao32, co32, eo32⟩ := Kd.R_slice HO357.out; subst eo32; have hnb33 := NB362_354.out; have hnc33 := NB354_362.out; have hcz34_0 : w31.cell? ⟨gb362, 0, none⟩ = some (.slice none 0 0) := (blk_cell BK362.out 0).trans rfl; have hcz34_1 : w31.cell? ⟨gb362, 1, none⟩ = some (.slice none 0 0) := (blk_cell BK362.out 1).trans rfl; have hfz34_0 := bfz BK362.out 0; have hfz34_1 := bfz BK362.out 1; obtain ⟨Ao35, co35, eo35⟩ := Kd.S_slice HO360.out; subst eo35; have hcz36_0 : w31.cell? ⟨gb354, 0, none⟩ = some (.slice Ao27 t347.length co27) := (blk_cell BK354.out 0).trans rfl; have hcz36_1 : w31.cell? ⟨gb354, 1, none⟩ = some (.slice Ao29 t350.length co29) := (blk_cell BK354.out 1).trans rfl; have hfz36_0 := bfz BK354.out 0; have hfz36_1 := bfz BK354.out 1) | (go_at_call 7; (with_reducible refine (r43_Same.calls k _ _ t347 _ _ t350 _ _ t355 _ _ t358 false _ ?side1 ?side2 ?side3 ?side4 ?side5 ?side6 ?side7 ?side8 A8.out).mono ?_); (case side1 => refine (Kd.R_reads' (e := 3) (base := w.heap.size) (ok := fun k_ => (True ∧ some k_ ≠ (.slice Ao32 t355.length co32 : Value).ownBlock)) (n := t347.length) (c := co27) ?_).2.2; exact Z91); (case side2 => exact (Kd.R_reads' HO349.out).2.1); (case side3 => refine (Kd.S_reads' (e := 35) (base := w.heap.size) (ok := fun k_ => ((some k_ ≠ (.slice Ao27 t347.length co27 : Value).ownBlock ∧ some k_ ≠ (.slice Ao32 t355.length co32 : Value).ownBlock) ∧ some k_ ≠ (.slice Ao35 t358.length co35 : Value).ownBlock)) (n := t350.length) (c := co29) ?_).2.2; exact Z84); (case side4 => exact (Kd.S_reads' HO352.out).2.1); (case side5 => refine (Kd.R_reads' (e := 3) (base := w.heap.size) (ok := fun k_ => (True ∧ some k_ ≠ (.slice Ao27 t347.length co27 : Value).ownBlock)) (n := t355.length) (c := co32) ?_).2.2; exact Z89); (case side6 => exact (Kd.R_reads' HO357.out).2.1); (case side7 => refine (Kd.S_reads' (e := 35) (base := w.heap.size) (ok := fun k_ => ((some k_ ≠ (.slice Ao32 t355.length co32 : Value).ownBlock ∧ some k_ ≠ (.slice Ao27 t347.length co27 : Value).ownBlock) ∧ some k_ ≠ (.slice Ao29 t350.length co29 : Value).ownBlock)) (n := t358.length) (c := co35) ?_).2.2; exact Z82); (case side8 => exact (Kd.S_reads' HO360.out).2.1); rintro e w37 ⟨rfl, hb⟩; have n0_ := Ak (Kd.R_below Z91 hb); have n1_ := Ak (Kd.S_below Z84 hb); have n2_ := Ak (Kd.R_below Z89 hb); have n3_ := Ak (Kd.S_below Z82 hb); have n4_ := Ak (blk_below (g := gb354) (o := .cells #[.slice Ao27 t347.length co27, .slice Ao29 t350.length co29] 27 (0, 0)) (by refine bz ?_; refine blk_far ?_ NB354_362.out _; refine bz ?_; refine blk_far ?_ NB354_362.out _; refine bz ?_; exact BK354.out) hb); have n5_ := Ak (blk_below (g := gb362) (o := .cells #[.slice Ao32 t355.length co32, .slice Ao35 t358.length co35] 27 (0, 0)) (by refine bz ?_; refine blk_put (cs := #[.slice Ao32 t355.length co32, .slice none 0 0]) ?_ 1 _ rfl; refine bz ?_; refine blk_put (cs := #[.slice none 0 0, .slice none 0 0]) ?_ 0 _ rfl; refine bz ?_; exact BK362.out) hb); have n6_ := Ak (below_step Z43 hb); clear HO349; clear HO352; clear HO357; clear HO360; clear BK354; clear BK362; clear HB; have HO349 := n0_; have HO352 := n1_; have HO357 := n2_; have HO360 := n3_; have BK354 := n4_; have BK362 := n5_; have HB := n6_; clear n0_ n1_ n2_ n3_ n4_ n5_ n6_; (try clear hb); (try clear hb2); (try clear hk); (try clear hi)))
    go_ret
    exact ⟨Z6, Z43⟩
  ·rw [if_neg c7] at H
   have c7b0 : (t353 == t361) = false := beq_eq_false_iff_ne.mpr c7
   have c7b1 : (t353 != t361) = true := bne_iff_ne.mpr c7
   obtain rfl := Option.some.inj H
   go_enter Tryz.func3, Tryz.ntmps3
   go_wp2_with (first | ((with_reducible refine gate_callee (f := 5) rfl ?_); refine goesL_ (some 13) rfl rfl Tryz.func5 Z76 rfl #[.slice A0 l0.length c0] rfl Z4 ?_; (with_reducible refine (bundle_Parse.calls k _ _ l0 t347 t350 t353 _ ?side1 ?side2 A5.out).mono ?_); (case side1 => exact Z17); (case side2 => exact Z77); rintro e w38 ⟨v348, v351, rfl, ho0, ho1, hb⟩; refine ⟨_, rfl, ?_⟩; have n0_ := Ak (Kd.R_lower ho0 (below_size Z1)); have n1_ := Ak (Kd.S_lower ho1 (below_size Z1)); have n2_ := Ak (below_step Z1 hb); clear HB; have HO349 := n0_; have HO352 := n1_; have HB := n2_; clear n0_ n1_ n2_; (try clear hb); (try clear hb2); (try clear hk); (try clear hi); (try clear ho0); (try clear ho1)) | ((with_reducible refine gate_dst (N := 3) rfl ?_); refine box_event ?hg (N := 3) ?hd (cs := #[.slice none 0 0, .slice none 0 0]) (t := 27) ?hr ?_; (case hd => rfl); (case hg => rfl); (case hr => exact Z16); intro gb354 hg w39 hbox hb; have n0_ := Ak (Kd.R_below Z62 hb); have n1_ := Ak (Kd.S_below Z61 hb); have n2_ := Ak (below_step Z1 hb); have n3_ := Ak (hbox); have n4_ := Ak ((Z36 : w.heap.size ≤ gb354)); have n5_ := Ak ((Z36 : w.heap.size ≤ gb354)); clear HO349; clear HO352; clear HB; have HO349 := n0_; have HO352 := n1_; have HB := n2_; have BK354 := n3_; have GW354 := n4_; have GE354 := n5_; clear n0_ n1_ n2_ n3_ n4_ n5_; clear hb hbox hg; obtain ⟨Ao40, co40, eo40⟩ := Kd.R_slice HO349.out; subst eo40; have hcz41_0 : w39.cell? ⟨gb354, 0, none⟩ = some (.slice none 0 0) := (blk_cell BK354.out 0).trans rfl; have hcz41_1 : w39.cell? ⟨gb354, 1, none⟩ = some (.slice none 0 0) := (blk_cell BK354.out 1).trans rfl; have hfz41_0 := bfz BK354.out 0; have hfz41_1 := bfz BK354.out 1; obtain ⟨Ao42, co42, eo42⟩ := Kd.S_slice HO352.out; subst eo42) | ((with_reducible refine gate_callee (f := 6) rfl ?_); refine goesL_ (some 18) rfl rfl Tryz.func6 Z76 rfl #[.slice A0 l0.length c0] rfl Z4 ?_; (with_reducible refine (r43_Parse.calls k _ _ l0 t355 t358 t361 _ ?side1 ?side2 A6.out).mono ?_); (case side1 => exact Kd.C_below HR0.out Z12); (case side2 => exact Z77); rintro e w43 ⟨v356, v359, rfl, ho0, ho1, hb⟩; refine ⟨_, rfl, ?_⟩; have n0_ := Ak (Kd.R_elder' Z52 (Kd.R_base ho0) hb); have n1_ := Ak (Kd.S_mono (Kd.S_told (Kd.S_told (Kd.S_old Z86 hb) (Kd.R_base ho0)) (Kd.S_base ho1)) (fun _ h_ => h_.1)); have n2_ := Ak (Kd.R_lower (Kd.R_new' ho0 (Kd.R_lt Z52)) (below_size Z12)); have n3_ := Ak (Kd.S_lower (Kd.S_new' (Kd.S_new' ho1 (Kd.R_lt Z52)) (Kd.S_lt Z86)) (below_size Z12)); have n4_ := Ak (blk_below (g := gb354) (o := .cells #[.slice Ao40 t347.length co40, .slice Ao42 t350.length co42] 27 (0, 0)) (by refine bz ?_; refine blk_put (cs := #[.slice Ao40 t347.length co40, .slice none 0 0]) ?_ 1 _ rfl; refine bz ?_; refine blk_put (cs := #[.slice none 0 0, .slice none 0 0]) ?_ 0 _ rfl; refine bz ?_; exact BK354.out) hb); have n5_ := Ak (below_step Z12 hb); clear HO349; clear HO352; clear BK354; clear HB; have HO349 := n0_; have HO352 := n1_; have HO357 := n2_; have HO360 := n3_; have BK354 := n4_; have HB := n5_; clear n0_ n1_ n2_ n3_ n4_ n5_; (try clear hb); (try clear hb2); (try clear hk); (try clear hi); (try clear ho0); (try clear ho1)) | ((with_reducible refine gate_dst (N := 5) rfl ?_); refine box_event ?hg (N := 5) ?hd (cs := #[.slice none 0 0, .slice none 0 0]) (t := 27) ?hr ?_; (case hd => rfl); (case hg => rfl); (case hr => exact Z16); intro gb362 hg w44 hbox hb; have n0_ := Ak (Kd.R_below Z62 hb); have n1_ := Ak (Kd.S_below Z61 hb); have n2_ := Ak (Kd.R_below Z97 hb); have n3_ := Ak (Kd.S_below Z96 hb); have n4_ := Ak (blk_below (g := gb354) (o := .cells #[.slice Ao40 t347.length co40, .slice Ao42 t350.length co42] 27 (0, 0)) Z114 hb); have n5_ := Ak (below_step Z12 hb); have n6_ := Ak (hbox); have n7_ := Ak ((by rw [hg]; exact (below_size Z12) : w.heap.size ≤ gb362)); have n8_ := Ak ((by rw [hg]; exact (below_size Z12) : w.heap.size ≤ gb362)); have n9_ := Ak ((by rw [hg]; exact Nat.ne_of_lt (blk_lt (g := gb354) (o := .cells #[.slice Ao40 t347.length co40, .slice Ao42 t350.length co42] 27 (0, 0)) Z114) : gb354 ≠ gb362)); have n10_ := Ak ((by rw [hg]; exact Nat.ne_of_gt (blk_lt (g := gb354) (o := .cells #[.slice Ao40 t347.length co40, .slice Ao42 t350.length co42] 27 (0, 0)) Z114) : gb362 ≠ gb354)); clear HO349; clear HO352; clear HO357; clear HO360; clear BK354; clear HB; have HO349 := n0_; have HO352 := n1_; have HO357 := n2_; have HO360 := n3_; have BK354 := n4_; have HB := n5_; have BK362 := n6_; have GW362 := n7_; have GE362 := n8_; have NB354_362 := n9_; have NB362_354 := n10_; clear n0_ n1_ n2_ n3_ n4_ n5_ n6_ n7_ n8_ n9_ n10_; clear hb hbox hg; obtain ⟨Ao45, co45, eo45⟩ := Kd.R_slice HO357.out; subst eo45; have hnb46 := NB362_354.out; have hnc46 := NB354_362.out; have hcz47_0 : w44.cell? ⟨gb362, 0, none⟩ = some (.slice none 0 0) := (blk_cell BK362.out 0).trans rfl; have hcz47_1 : w44.cell? ⟨gb362, 1, none⟩ = some (.slice none 0 0) := (blk_cell BK362.out 1).trans rfl; have hfz47_0 := bfz BK362.out 0; have hfz47_1 := bfz BK362.out 1; obtain ⟨Ao48, co48, eo48⟩ := Kd.S_slice HO360.out; subst eo48))
   go_ret
   exact ⟨Z6, Z43⟩
def l43_BundleParses.Pure : Prop := ∀ (l0 : List Int), l0.length ≤ maxLen → l0.length * 1 ≤ 140737488351232 → (∀ x ∈ l0, (Lit.int .u8 x).wf = true) → ∃ k, l43_BundleParses.f k l0 = some true
theorem l43_BundleParses.walk (P : l43_BundleParses.Pure) (a0 : Option Addr) (len0 cap0 : Nat) (z0 : List Int) (w : World) (w0 : (a0 = none ∧ len0 = 0 ∧ cap0 = 0 ∧ z0 = []) ∨ ∃ x, a0 = some x ∧ len0 ≤ cap0 ∧ cap0 ≤ maxLen ∧ z0.length = cap0 ∧ (∀ i, i < z0.length → w.cell? (x.add i) = some (.int .u8 (z0.getD i 0))) ∧ ∀ n ∈ z0, (Lit.int .u8 n).wf = true) (y0 : len0 * 1 ≤ 140737488351232) :
  Calls Tryz.prog 3 #[.slice a0 len0 cap0] w fun e w' => e = .returned (.bool true) ∧ Below w.heap.size w w' := by
 obtain ⟨l0, rfl, hr0, hm0, hw0, hc0⟩ := ReadsInt.ofRowC w0
 obtain ⟨k, h⟩ := P l0 hm0 y0 hw0
 refine (l43_BundleParses.calls k _ _ l0 true w (Kd.C_of_reads (d := (0 : Int)) (h1 := fun _ => rfl) hr0) hc0 h).mono ?_
 rintro e w' ⟨rfl, hd⟩
 exact ⟨rfl, hd⟩
end Go.Proofs.YtmmjnbpoilicjaaGreat.Q
